/- A beam's line is five from one of its numbers, and never nearer. No conditions. -/
import Derived.Test.YtocjbedacnlaaaaGreatDoorKinds
import Derived.Test.YtocjbedacnlaaaaGreatDoorQ34
import Derived.Test.YtocjbedacnlaaaaGreatDoorSl0
namespace Go.Proofs.YtocjbedacnlaaaaGreatDoor.Pure
open Go.RowKit Go.Proofs.YtocjbedacnlaaaaGreatDoor.Q Go.Proofs.YtocjbedacnlaaaaGreatDoorW.PrintWords Go.Proofs.YtocjbedacnlaaaaGreatDoorW.PrintMore
set_option linter.unusedVariables false
/-- What is to be shown of a line: its sign, its numbers, whether it rises. -/
structure NearOk (n : Nat) (g y : Nat → Int) (s : Int) (c : Bool) (t0 : Nat) : Prop where
  sgn : s = 1 ∨ s = -1
  n2 : 2 ≤ n ∧ n ≤ 64
  gb : ∀ i, i < n → -100 ≤ g i ∧ g i ≤ 100
  yb : ∀ i, i < n → -1000 ≤ y i ∧ y i ≤ 1000
  gap : ∀ i, i < n → 5 ≤ s * (y i - g i)
  t0n : t0 < n
  tap : s * (y t0 - g t0) = 5
  up : c = true → ∀ i, i + 1 < n → y i ≤ y (i + 1)
  dn : c = false → ∀ i, i + 1 < n → y (i + 1) ≤ y i
  dd : -2 ≤ y (n - 1) - y 0 ∧ y (n - 1) - y 0 ≤ 2
theorem near_l0 {n : Nat} {g y : Nat → Int} {s : Int} {c : Bool} {t0 : Nat} (H : NearOk n g y s c t0) : ∀ (j i k : Nat) (x9 x10 x11 : Bool), i + j = n → (c = true → x10 = true) → (c = false → x11 = true) → (t0 < i → x9 = true) → partitalaw23_BeamNear.l0 (k + j + 1) (rng n g) true (rng n y) s x9 x10 x11 (i : Int) = some true := by
  obtain ⟨hs, hn, hg, hy, hgap, ht0, htap, hup, hdn, hdd⟩ := H
  intro j
  induction j with
  | zero =>
    intro i k x9 x10 x11 h i10 i11 i9
    obtain rfl : i = n := by omega
    unfold partitalaw23_BeamNear.l0
    (try dsimp only)
    obtain rfl := i9 ht0
    have e1 : rd (rng i y) ((i : Int) - 1) = y (i - 1) := by rw [show (i : Int) - 1 = ((i - 1 : Nat) : Int) by omega]; exact rng_rd (by omega)
    have e2 : rd (rng i y) 0 = y 0 := rng_rd (i := 0) (by omega)
    rw [rng_len, if_neg (by omega), w64 (n := (i : Int) - 1) (by omega), if_pos (by omega), if_pos (by omega), if_pos (by omega), if_pos rfl, if_pos rfl, e1, e2, w64 (n := y (i - 1) - y 0) (by omega)]
    have hd : decide (y (i - 1) - y 0 ≤ 2) = true := decide_eq_true hdd.2
    rw [if_pos (show y (i - 1) - y 0 ≥ -2 from hdd.1), hd]
    cases c with
    | true => rw [i10 rfl, if_pos rfl]
    | false => rw [i11 rfl, if_pos rfl]; split <;> rfl
  | succ j ih =>
    intro i k x9 x10 x11 h i10 i11 i9
    rw [show k + (j + 1) + 1 = (k + j + 1) + 1 by omega]
    unfold partitalaw23_BeamNear.l0
    (try dsimp only)
    have b1 := hg i (by omega)
    have b2 := hy i (by omega)
    have b3 := hgap i (by omega)
    have eG : wrap64 (s * wrap64 (y i - g i)) = s * (y i - g i) := by
      rw [w64 (n := y i - g i) (by omega)]
      rcases hs with rfl | rfl
      · exact w64 (by omega)
      · exact w64 (by omega)
    have ih' := fun x9' x10' x11' => ih (i + 1) k x9' x10' x11' (by omega)
    rw [show ((i + 1 : Nat) : Int) = (i : Int) + 1 by omega] at ih'
    rw [rng_len, rng_len, if_pos (show (i : Int) < (n : Int) by omega), if_pos (show (0 : Int) ≤ (i : Int) by omega), if_pos (show (i : Int) < (n : Int) by omega), rng_rd (show i < n by omega), rng_rd (show i < n by omega), eG, w64 (n := (i : Int) + 1) (by omega), if_neg (show ¬ s * (y i - g i) < 5 by omega)]
    have hN : x9 = false → t0 < i + 1 → (s * (y i - g i) == 5) = true := by
      intro hx ht
      by_cases c2 : t0 = i
      · rw [← c2, htap]; rfl
      · have := i9 (by omega); rw [hx] at this; cases this
    by_cases c0 : i = 0
    · have c1 : ¬ ((i : Int) > 0) := by omega
      simp only [c1, if_false]
      cases x9 with
      | true => rw [if_pos rfl]; exact ih' _ _ _ i10 i11 (fun _ => rfl)
      | false => rw [if_neg (by simp)]; exact ih' _ _ _ i10 i11 (hN rfl)
    · have c1 : (i : Int) > 0 := by omega
      have e0 : wrap64 ((i : Int) - 1) = ((i - 1 : Nat) : Int) := by rw [w64 (by omega)]; omega
      have e3 : rd (rng n y) ((i - 1 : Nat) : Int) = y (i - 1) := rng_rd (by omega)
      have c2 : (0 : Int) ≤ ((i - 1 : Nat) : Int) := by omega
      have c3 : ((i - 1 : Nat) : Int) < (n : Int) := by omega
      rw [e0, e3]
      have u1 : c = true → decide (y i ≥ y (i - 1)) = true := fun hc => decide_eq_true (by have := hup hc (i - 1) (by omega); rw [show i - 1 + 1 = i by omega] at this; exact this)
      have u2 : c = false → decide (y i ≤ y (i - 1)) = true := fun hc => decide_eq_true (by have := hdn hc (i - 1) (by omega); rw [show i - 1 + 1 = i by omega] at this; exact this)
      simp only [c1, c2, c3, if_true]
      cases x9 <;> cases x10 <;> cases x11 <;> simp only [Bool.false_eq_true, if_true, if_false] <;> refine ih' _ _ _ ?_ ?_ ?_ <;> first | exact u1 | exact u2 | exact i10 | exact i11 | (intro _; rfl) | exact hN rfl
theorem near_ok {n : Nat} {g y : Nat → Int} {s : Int} {c : Bool} {t0 : Nat} (H : NearOk n g y s c t0) (k : Nat) (up : Bool) (hs : s = if up = true then 1 else -1) : partitalaw23_BeamNear.j0 (k + 400) (rng n g) up true (rng n y) (decide (((rng n y).length : Int) < 2)) = some true := by
  rw [rng_len, decide_eq_false (by have := H.n2; omega), show k + 400 = (k + 399) + 1 from rfl]
  unfold partitalaw23_BeamNear.j0
  (try dsimp only)
  rw [if_neg (by simp)]
  have e := near_l0 H n 0 (k + 398 - (n + 1)) false true true (by omega) (fun _ => rfl) (fun _ => rfl) (fun h => absurd h (by omega))
  rw [show k + 398 - (n + 1) + n + 1 = k + 398 by have := H.n2; omega] at e
  cases up with
  | true =>
    rw [if_pos rfl, show k + 399 = (k + 398) + 1 from rfl]
    unfold partitalaw23_BeamNear.j1
    (try dsimp only)
    rw [if_pos rfl] at hs
    rw [hs] at e
    exact e
  | false =>
    rw [if_neg (by simp), show k + 399 = (k + 398) + 1 from rfl]
    unfold partitalaw23_BeamNear.j1
    (try dsimp only)
    rw [if_neg (by simp)] at hs
    rw [hs] at e
    exact e
theorem BeamNear : ∀ (l0 : List Int) (a1 : Bool), (l0.length * 8 ≤ 140737488351232 ∧ ∀ y ∈ l0, (Lit.int .i64 y).wf = true) → ∃ k, partitalaw23_BeamNear.f k l0 a1 = some true := by
  intro l up _
  refine ⟨400, ?_⟩
  rw [← rng_self l]
  generalize l.length = n
  generalize (fun i => l.getD i 0) = g
  unfold partitalaw23_BeamNear.f partitalaw23_shown.f
  rw [Option.bind_some]
  by_cases h : okS n g
  · cases up with
    | true =>
      obtain ⟨b, hT, a⟩ := Slope_up h
      have a := a 0
      rw [Nat.zero_add] at a
      rw [a, Option.bind_some, if_pos rfl]
      unfold overL
      have hbb := overL_bd ⟨h.1, h.2.1⟩ (fun i hi => by have := h.2.2 i hi; omega) hT
      have hd := dF_bd n g
      obtain ⟨t1, t0, ht0, t2⟩ := hT
      have H : NearOk n g (fun t => fl n (dF n g) t + b) 1 (decide (0 ≤ dF n g)) t0 := by
        refine ⟨.inl rfl, ⟨h.1, h.2.1⟩, h.2.2, fun i hi => ?_, fun i hi => ?_, ht0, ?_, fun hc i hi => ?_, fun hc i hi => ?_, ?_⟩
        · have := fl_bd hd ⟨h.1, h.2.1⟩ hi; (try dsimp only); omega
        · have := t1 i hi; unfold hF at this; (try dsimp only); omega
        · unfold hF at t2; (try dsimp only); omega
        · have := fl_up h.1 (of_decide_eq_true hc) i; (try dsimp only); omega
        · have := fl_dn h.1 (d := dF n g) (by have := of_decide_eq_false hc; omega) i; (try dsimp only); omega
        · have := fl_last h.1 (dF n g); have := fl_zero n (dF n g); (try dsimp only); omega
      rw [if_pos (by rw [rng_len, rng_len])]
      exact near_ok H 0 true rfl
    | false =>
      obtain ⟨b, hT, a⟩ := Slope_dn h
      have a := a 0
      rw [Nat.zero_add] at a
      rw [a, Option.bind_some, if_pos rfl]
      have h' := okS_neg h
      have hbb := overL_bd ⟨h'.1, h'.2.1⟩ (fun i hi => by have := h'.2.2 i hi; omega) hT
      have hd := dF_bd n (neg g)
      obtain ⟨t1, t0, ht0, t2⟩ := hT
      have H : NearOk n g (fun t => -(fl n (dF n (neg g)) t + b)) (-1) (decide (dF n (neg g) ≤ 0)) t0 := by
        refine ⟨.inr rfl, ⟨h.1, h.2.1⟩, h.2.2, fun i hi => ?_, fun i hi => ?_, ht0, ?_, fun hc i hi => ?_, fun hc i hi => ?_, ?_⟩
        · have := fl_bd hd ⟨h.1, h.2.1⟩ hi; (try dsimp only); omega
        · have := t1 i hi; unfold hF neg at this; unfold neg; (try dsimp only); omega
        · unfold hF neg at t2; unfold neg; (try dsimp only); omega
        · have := fl_dn h.1 (of_decide_eq_true hc) i; (try dsimp only); omega
        · have := fl_up h.1 (d := dF n (neg g)) (by have := of_decide_eq_false hc; omega) i; (try dsimp only); omega
        · have := fl_last h.1 (dF n (neg g)); have := fl_zero n (dF n (neg g)); (try dsimp only); omega
      rw [if_pos (by rw [rng_len, rng_len])]
      exact near_ok H 0 false rfl
  · have a := Slope_no h 0 up
    rw [Nat.zero_add] at a
    rw [a, Option.bind_some, if_neg (by simp), if_pos rfl]
    rfl
end Go.Proofs.YtocjbedacnlaaaaGreatDoor.Pure
