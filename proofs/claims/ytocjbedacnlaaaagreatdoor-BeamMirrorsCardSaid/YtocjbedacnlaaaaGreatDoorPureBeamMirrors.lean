/- Under numbers a line stands as over those with the other sign; over greater ones it stands higher. No conditions. -/
import Derived.Test.YtocjbedacnlaaaaGreatDoorKinds
import Derived.Test.YtocjbedacnlaaaaGreatDoorQ17
import Derived.Test.YtocjbedacnlaaaaGreatDoorSl0
namespace Go.Proofs.YtocjbedacnlaaaaGreatDoor.Pure
open Go.RowKit Go.Proofs.YtocjbedacnlaaaaGreatDoor.Q Go.Proofs.YtocjbedacnlaaaaGreatDoorW.PrintWords Go.Proofs.YtocjbedacnlaaaaGreatDoorW.PrintMore
set_option linter.unusedVariables false
/-- Numbers that are so much greater. -/
def plus (g : Nat → Int) (c : Int) (i : Nat) : Int := g i + c
theorem mir_l1 {n : Nat} {c x14 : Int} {y : Nat → Int} {O : List Int} (hn : n ≤ 64) (hy : ∀ i, i < n → -1000 ≤ y i ∧ y i ≤ 1000) (hc : -100 ≤ c ∧ c ≤ 100) (hO : x14 = 0 → O = rng n (plus y c)) : ∀ (j i k : Nat), i + j = n → partitalaw23_BeamMirrors.l1 (k + j + 1) c true (rng n y) (rng n fun t => -(y t)) O x14 (i : Int) = some true := by
  intro j
  induction j with
  | zero =>
    intro i k h
    unfold partitalaw23_BeamMirrors.l1
    (try dsimp only)
    rw [if_neg (by rw [rng_len]; omega)]
  | succ j ih =>
    intro i k h
    rw [show k + (j + 1) + 1 = (k + j + 1) + 1 by omega]
    unfold partitalaw23_BeamMirrors.l1
    (try dsimp only)
    have := hy i (by omega)
    have e := ih (i + 1) k (by omega)
    rw [show ((i + 1 : Nat) : Int) = (i : Int) + 1 by omega] at e
    have e1 : rd (rng n fun t => -(y t)) (i : Int) = -(y i) := rng_rd (g := fun t => -(y t)) (by omega)
    rw [rng_len, rng_len, if_pos (by omega), if_pos (by omega), if_pos (by omega), e1, rng_rd (show i < n by omega), w64 (n := -(y i)) (by omega), if_pos rfl, w64 (n := (i : Int) + 1) (by omega)]
    by_cases c0 : x14 = 0
    · obtain rfl := hO c0
      have e2 : rd (rng n (plus y c)) (i : Int) = y i + c := rng_rd (by omega)
      rw [if_pos c0, rng_len, if_pos rfl, if_pos (by omega), e2, w64 (n := y i + c) (by omega), if_pos rfl]
      exact e
    · rw [if_neg c0]
      exact e
theorem Slope_some (n : Nat) (g : Nat → Int) (k : Nat) : ∃ r, beam_Slope.f (k + 400) (rng n g) true = some r := by
  by_cases h : okS n g
  · obtain ⟨b, _, hb⟩ := Slope_up h
    exact ⟨_, hb k⟩
  · exact ⟨_, Slope_no h k true⟩
theorem neg_neg' (g : Nat → Int) : neg (neg g) = g := by funext i; unfold neg; omega
theorem dF_plus (n : Nat) (g : Nat → Int) (c : Int) : dF n (plus g c) = dF n g := by
  unfold dF plus
  rw [show g (n - 1) + c - (g 0 + c) = g (n - 1) - g 0 by omega]
theorem Top_plus {n : Nat} {g : Nat → Int} {c b b' : Int} (h : Top n (hF n g) b) (h' : Top n (hF n (plus g c)) b') : b' = b + c := by
  refine h'.uniq ?_
  obtain ⟨t1, i, hi, t2⟩ := h
  refine ⟨fun j hj => ?_, i, hi, ?_⟩
  · have := t1 j hj; unfold hF at *; rw [dF_plus]; unfold plus; omega
  · unfold hF at *; rw [dF_plus]; unfold plus; omega
theorem mir_end {n m : Nat} {g : Nat → Int} {c : Int} (hc : -100 ≤ c ∧ c ≤ 100) (hm : m = n ∨ (m = 65 ∧ 65 ≤ n)) (hg : ∀ t, t < m → -100 ≤ g t ∧ g t ≤ 100) (k : Nat) : partitalaw23_BeamMirrors.j1 (k + 601) (rng n g) c true (rng m (neg g)) (rng m (plus g c)) (m : Int) false = some true := by
  rw [show k + 601 = (k + 600) + 1 from rfl]
  unfold partitalaw23_BeamMirrors.j1
  (try dsimp only)
  rw [if_neg (by simp)]
  by_cases h : okS n g
  · have hmn : m = n := by rcases hm with e | ⟨e, e2⟩; exact e; have := h.2.1; omega
    subst hmn
    obtain ⟨b, hT, a1⟩ := Slope_up h
    have h2 := okS_neg h
    obtain ⟨b2, hT2, a2⟩ := Slope_dn h2
    rw [neg_neg'] at hT2 a2
    obtain rfl := hT2.uniq hT
    have a1 := a1 (k + 200)
    have a2 := a2 (k + 200)
    rw [show k + 200 + 400 = k + 600 from rfl] at a1 a2
    have hbb := overL_bd ⟨h.1, h.2.1⟩ (fun i hi => by have := h.2.2 i hi; omega) hT
    have hd := dF_bd m g
    have hy : ∀ i, i < m → -1000 ≤ fl m (dF m g) i + b2 ∧ fl m (dF m g) i + b2 ≤ 1000 := fun i hi => by have := fl_bd hd ⟨h.1, h.2.1⟩ hi; omega
    have fin : ∀ (O : List Int) (x14 : Int), (x14 = 0 → O = rng m (plus (fun t => fl m (dF m g) t + b2) c)) → partitalaw23_BeamMirrors.j2 (k + 600) c true (overL m g b2) 0 (rng m fun t => -(fl m (dF m g) t + b2)) 0 O x14 false = some true := by
      intro O x14 hO
      rw [show k + 600 = (k + 599) + 1 from rfl]
      unfold partitalaw23_BeamMirrors.j2
      (try dsimp only)
      rw [if_neg (by simp)]
      have := mir_l1 h.2.1 hy hc hO m 0 (k + 599 - (m + 1)) (by omega)
      rw [show k + 599 - (m + 1) + m + 1 = k + 599 by have := h.2.1; omega] at this
      exact this
    have hne : ((((rng m fun t => -(fl m (dF m g) t + b2)).length : Int)) != ((overL m g b2).length : Int)) = false := by
      unfold overL
      rw [rng_len, rng_len]
      simp
    rw [a1, Option.bind_some, a2, Option.bind_some]
    by_cases h3 : okS m (plus g c)
    · obtain ⟨b3, hT3, a3⟩ := Slope_up h3
      have a3 := a3 (k + 200)
      rw [show k + 200 + 400 = k + 600 from rfl] at a3
      obtain rfl := Top_plus hT hT3
      rw [a3, Option.bind_some]
      (try dsimp only)
      rw [if_pos rfl, if_pos rfl, hne]
      refine fin _ _ (fun _ => ?_)
      unfold overL
      rw [dF_plus]
      exact rng_ext fun t ht => by show fl m (dF m g) t + (b2 + c) = fl m (dF m g) t + b2 + c; omega
    · have a3 := Slope_no h3 (k + 200) true
      rw [show k + 200 + 400 = k + 600 from rfl] at a3
      rw [a3, Option.bind_some]
      (try dsimp only)
      rw [if_pos rfl, if_pos rfl, hne]
      exact fin _ _ (fun e => absurd e (by decide))
  · have a1 := Slope_no h (k + 200) true
    have h2 : ¬ okS m (neg g) := by
      rintro ⟨p1, p2, p3⟩
      rcases hm with e | ⟨e, e2⟩
      · subst e
        exact h ⟨p1, p2, fun i hi => hg i hi⟩
      · omega
    have a2 := Slope_no h2 (k + 200) false
    obtain ⟨r, a3⟩ := Slope_some m (plus g c) (k + 200)
    rw [show k + 200 + 400 = k + 600 from rfl] at a1 a2 a3
    rw [a1, Option.bind_some, a2, Option.bind_some, a3, Option.bind_some]
    (try dsimp only)
    rw [if_neg (by simp), show k + 600 = (k + 599) + 1 from rfl]
    unfold partitalaw23_BeamMirrors.j2
    (try dsimp only)
    rw [if_pos rfl, if_pos rfl]
    rfl
theorem mir_l0 {n : Nat} {g : Nat → Int} {c : Int} (hc : -100 ≤ c ∧ c ≤ 100) : ∀ (j i k : Nat), i + j = 65 → i ≤ n → (∀ t, t < i → -100 ≤ g t ∧ g t ≤ 100) → partitalaw23_BeamMirrors.l0 (k + 601 + 2 * j + 1) (rng n g) c true (rng i (neg g)) (rng i (plus g c)) (i : Int) = some true := by
  intro j
  induction j with
  | zero =>
    intro i k h hin hg
    obtain rfl : i = 65 := by omega
    unfold partitalaw23_BeamMirrors.l0
    (try dsimp only)
    have e := mir_end (n := n) (m := 65) hc (.inr ⟨rfl, hin⟩) hg k
    by_cases c1 : ((65 : Nat) : Int) < ((rng n g).length : Int)
    · rw [if_pos c1]; exact e
    · rw [if_neg c1]; exact e
  | succ j ih =>
    intro i k h hin hg
    rw [show k + 601 + 2 * (j + 1) + 1 = (k + 601 + 2 * j + 1) + 1 + 1 by omega]
    unfold partitalaw23_BeamMirrors.l0
    (try dsimp only)
    by_cases c1 : (i : Int) < ((rng n g).length : Int)
    · rw [if_pos c1, decide_eq_true (show (i : Int) < 65 by omega)]
      rw [rng_len] at c1
      unfold partitalaw23_BeamMirrors.j1
      (try dsimp only)
      rw [if_pos rfl, if_pos (by omega), if_pos (by rw [rng_len]; omega), rng_rd (show i < n by omega)]
      by_cases c2 : g i < -100
      · rw [if_pos c2]
      · rw [if_neg c2]
        by_cases c3 : g i > 100
        · rw [if_pos c3]
        · rw [if_neg c3, rng_len, rng_len, if_pos (by omega), if_pos (by omega), w64 (n := -(g i)) (by omega), w64 (n := g i + c) (by omega), w64 (n := (i : Int) + 1) (by omega)]
          have e := ih (i + 1) k (by omega) (by omega) (fun t ht => by
            by_cases c4 : t = i
            · rw [c4]; omega
            · exact hg t (by omega))
          rw [show ((i + 1 : Nat) : Int) = (i : Int) + 1 by omega, ← rng_snoc, ← rng_snoc] at e
          exact e
    · rw [if_neg c1]
      rw [rng_len] at c1
      have e := mir_end (n := n) (m := i) hc (.inl (by omega)) hg (k + 2 * j + 2)
      rw [show k + 2 * j + 2 + 601 = k + 601 + 2 * j + 1 + 1 by omega] at e
      exact e
theorem BeamMirrors : ∀ (l0 : List Int) (a1 : Int), (l0.length * 8 ≤ 140737488351232 ∧ ∀ y ∈ l0, (Lit.int .i64 y).wf = true) → ((Lit.int .i64 a1).wf = true) → ∃ k, partitalaw23_BeamMirrors.f k l0 a1 = some true := by
  intro l a _ _
  refine ⟨0 + 601 + 2 * 65 + 1, ?_⟩
  rw [← rng_self l]
  generalize l.length = n
  generalize (fun i => l.getD i 0) = g
  unfold partitalaw23_BeamMirrors.f partitalaw23_shown.f
  rw [Option.bind_some]
  have hc : -100 ≤ mn (mx a (-100)) 100 ∧ mn (mx a (-100)) 100 ≤ 100 := by unfold mn mx; constructor <;> (repeat' split) <;> omega
  exact mir_l0 hc 65 0 0 rfl (by omega) (fun t ht => absurd ht (by omega))
end Go.Proofs.YtocjbedacnlaaaaGreatDoor.Pure
