/- TempoSplit: the plain law. No conditions. -/
import Derived.Test.YtchjlkokfgmjaaaTP5
import Derived.Test.YtchjlkokfgmjaaaTP6
import Derived.Test.YtchjlkokfgmjaaaQ10
import Derived.Test.YtchjlkokfgmjaaaQ15
namespace Go.Proofs.Ytchjlkokfgmjaaa.Pure
open Go.RowKit Go.Proofs.Ytchjlkokfgmjaaa.Q Go.Proofs.YtchjlkokfgmjaaaW.PrintWords Go.Proofs.YtchjlkokfgmjaaaW.PrintMore
set_option linter.unusedVariables false
theorem ref_place {a : Int} (ha : i64 a) {k : Nat} (hk : 1 ≤ k) : ∃ x n d, partitalaw11_place.f k a = some (n, d) ∧ ofQ x 96 = (n, d, 0) ∧ At x n d ∧ 0 ≤ x ∧ x < 2880 := by
  obtain ⟨x, hx, x0, x1⟩ := pick_f ha (n := 2880) (by omega) (by omega)
  obtain ⟨n, d, h, hq, t⟩ := ref96 x0 (by omega) hk
  refine ⟨x, n, d, ?_, hq, t, x0, x1⟩
  unfold partitalaw11_place.f
  rw [hx, Option.bind_some, h, Option.bind_some]
theorem loop_split {G : List T3} (h : okG G) (hl : G.length ≤ 8) {x p q : Int} (ha : At x p q) (x0 : 0 ≤ x) (x1 : x ≤ 9600001) (b1 b2 : Int) (ok : Bool) :
    ∀ (n k i : Nat), i + n = G.length → n < k → (∀ j s, j < i → G[j]? = some s → s.1 ≤ x) →
      ∃ c k', c ≤ G.length ∧ k ≤ k' + n + 1 ∧ (∀ s, G[c]? = some s → x < s.1) ∧ (∀ j s, j < c → G[j]? = some s → s.1 ≤ x) ∧ partitalaw11_TempoSplit.l0 k ok (toL G) i p q b1 b2 = partitalaw11_TempoSplit.j1 k' ok (toL G) c p q b1 b2 := by
  intro n
  induction n with
  | zero =>
    intro k i hi hk hj
    obtain ⟨k, rfl⟩ : ∃ m, k = m + 1 := ⟨k - 1, by omega⟩
    refine ⟨i, k, by omega, by omega, fun s hs => ?_, hj, ?_⟩
    · rw [List.getElem?_eq_none (by omega)] at hs; cases hs
    · simp only [partitalaw11_TempoSplit.l0]
      rw [toL_length, if_neg (by omega)]
  | succ n ih =>
    intro k i hi hk hj
    obtain ⟨k, rfl⟩ : ∃ m, k = m + 1 := ⟨k - 1, by omega⟩
    have hg : G[i]? = some G[i] := List.getElem?_eq_getElem (by omega)
    have ho := (okG_get h hg).1
    simp only [partitalaw11_TempoSplit.l0]
    rw [toL_length, if_pos (by omega), if_pos (by omega), rd_toL hg]
    simp only [ratio_Compare.f, Option.bind_some]
    rw [at_cmp (toS_at ho.1 (by have := ho.2.1; omega)) ha ho.1 (by have := ho.2.1; omega) x0 x1]
    by_cases hc : G[i].1 ≤ x
    · rw [if_pos (by split <;> (try split) <;> omega), wrap64_id (by unfold i64; omega)]
      obtain ⟨c, k', a1, a2, a3, a5, a4⟩ := ih k (i + 1) (by omega) (by omega) (fun j s hji hs => by
        by_cases e : j = i
        · subst e
          rw [hg] at hs
          obtain rfl := Option.some.inj hs
          exact hc
        · exact hj j s (by omega) hs)
      exact ⟨c, k', a1, by omega, a3, a5, a4⟩
    · rw [if_neg (by rw [if_neg (by omega), if_pos (by omega)]; omega)]
      refine ⟨i, k, by omega, by omega, fun s hs => ?_, hj, rfl⟩
      rw [hg] at hs
      obtain rfl := Option.some.inj hs
      omega
theorem part_flat {s : T3} {u : Option T3} {z : Int} (h : s.2.2 = false) : partG s u z = 4 * s.2.1 * (z - s.1) / 96 := by
  have hg : gapOf s u = (0, 1) := by
    unfold gapOf
    cases u with
    | none => rfl
    | some v => simp [h]
  unfold partG legT
  rw [hg]
  simp only [Int.mul_zero, Int.zero_mul, Int.add_zero, Int.mul_one]
  rw [Int.mul_comm (z - s.1)]
theorem rate_flat {s : T3} {u : Option T3} {z : Int} (h : s.2.2 = false) : rateG s u z = s.2.1 := by
  have hg : gapOf s u = (0, 1) := by
    unfold gapOf
    cases u with
    | none => rfl
    | some v => simp [h]
  unfold rateG legR
  rw [hg]
  simp
theorem two_parts (m a b : Int) : 4 * m * (a + b) / 96 = 4 * m * a / 96 + 4 * m * b / 96 ∨ 4 * m * (a + b) / 96 = 4 * m * a / 96 + 4 * m * b / 96 + 1 := by
  rw [Int.mul_add]
  generalize 4 * m * a = p
  generalize 4 * m * b = q
  omega
theorem two_at {m a x y : Int} : 4 * m * (y - a) / 96 = 4 * m * (x - a) / 96 + 4 * m * (y - x) / 96 ∨ 4 * m * (y - a) / 96 = 4 * m * (x - a) / 96 + 4 * m * (y - x) / 96 + 1 := by
  have := two_parts m (x - a) (y - x)
  rw [show x - a + (y - x) = y - a by omega] at this
  exact this
/-- A tempo told again, within a leg that doesn't change. -/
theorem ins_same {s : T3} {B : List T3} {x y : Int} (hs : s.2.2 = false) (hsx : s.1 < x) (hB : ∀ u, B.head? = some u → x < u.1) :
    ∀ (A : List T3), (∀ t, (A ++ [s]).head? = some t → t.1 ≤ y) → (mics (A ++ s :: B) y = mics (A ++ s :: (x, s.2.1, false) :: B) y ∨ mics (A ++ s :: B) y = mics (A ++ s :: (x, s.2.1, false) :: B) y + 1) ∧ rats (A ++ s :: B) y = rats (A ++ s :: (x, s.2.1, false) :: B) y := by
  intro A
  induction A with
  | nil =>
    intro hy
    simp only [List.nil_append]
    have hI : (x, s.2.1, false).2.2 = false := rfl
    rw [mics_two s (x, s.2.1, false), rats_two s (x, s.2.1, false)]
    show (_ = (if x ≤ y then _ else _) ∨ _ = (if x ≤ y then _ else _) + 1) ∧ _ = (if x ≤ y then _ else _)
    by_cases hxy : x ≤ y
    · rw [if_pos hxy, if_pos hxy]
      rw [part_flat (s := s) (u := some (x, s.2.1, false)) hs]
      show (_ = 4 * s.2.1 * (x - s.1) / 96 + _ ∨ _ = 4 * s.2.1 * (x - s.1) / 96 + _ + 1) ∧ _
      cases B with
      | nil =>
        rw [mics_one, mics_one, rats_one, rats_one, part_flat hs, part_flat hI, rate_flat hs, rate_flat hI]
        exact ⟨two_at, rfl⟩
      | cons u r =>
        have hu := hB u rfl
        rw [mics_two, mics_two, rats_two, rats_two]
        by_cases huy : u.1 ≤ y
        · rw [if_pos huy, if_pos huy, if_pos huy, if_pos huy, part_flat hs, part_flat hI]
          show (_ = _ + (4 * s.2.1 * (u.1 - x) / 96 + _) ∨ _ = _ + (4 * s.2.1 * (u.1 - x) / 96 + _) + 1) ∧ _
          have := two_at (m := s.2.1) (a := s.1) (x := x) (y := u.1)
          refine ⟨?_, rfl⟩
          generalize mics (u :: r) y = z
          omega
        · rw [if_neg huy, if_neg huy, if_neg huy, if_neg huy, part_flat hs, part_flat hI, rate_flat hs, rate_flat hI]
          exact ⟨two_at, rfl⟩
    · rw [if_neg hxy, if_neg hxy, part_flat (s := s) (u := some (x, s.2.1, false)) hs, rate_flat (s := s) (u := some (x, s.2.1, false)) hs]
      cases B with
      | nil => rw [mics_one, rats_one, part_flat hs, rate_flat hs]; exact ⟨.inl rfl, rfl⟩
      | cons u r =>
        have hu := hB u rfl
        rw [mics_two, rats_two, if_neg (by omega), if_neg (by omega), part_flat hs, rate_flat hs]
        exact ⟨.inl rfl, rfl⟩
  | cons t A ih =>
    intro hy
    cases A with
    | nil =>
      simp only [List.nil_append, List.cons_append] at ih ⊢
      rw [mics_two, mics_two t s, rats_two, rats_two t s]
      by_cases h : s.1 ≤ y
      · rw [if_pos h, if_pos h, if_pos h, if_pos h]
        have := ih (fun v hv => by obtain rfl := Option.some.inj hv; exact h)
        refine ⟨?_, this.2⟩
        omega
      · rw [if_neg h, if_neg h, if_neg h, if_neg h]
        exact ⟨.inl rfl, rfl⟩
    | cons a A =>
      simp only [List.cons_append] at ih ⊢
      rw [mics_two, mics_two t a, rats_two, rats_two t a]
      by_cases h : a.1 ≤ y
      · rw [if_pos h, if_pos h, if_pos h, if_pos h]
        have := ih (fun v hv => by obtain rfl := Option.some.inj (by simpa using hv : some a = some v); exact h)
        refine ⟨?_, this.2⟩
        omega
      · rw [if_neg h, if_neg h, if_neg h, if_neg h]
        exact ⟨.inl rfl, rfl⟩
theorem ins_ok {s : T3} {B : List T3} {x m : Int} (hs : s.2.2 = false) (hsx : s.1 < x) (ht : okT (x, m, false)) (hB : ∀ u, B.head? = some u → x < u.1) : ∀ (A : List T3), okG (A ++ s :: B) → okG (A ++ s :: (x, m, false) :: B) := by
  intro A
  induction A with
  | nil =>
    intro h
    obtain ⟨h1, h2, h3⟩ := h
    refine ⟨h1, fun u hu => ?_, ht, fun u hu => ⟨hB u hu, fun hh => by cases hh⟩, h3⟩
    obtain rfl := Option.some.inj hu
    exact ⟨hsx, fun hh => by rw [hs] at hh; cases hh⟩
  | cons t A ih =>
    intro h
    obtain ⟨h1, h2, h3⟩ := h
    refine ⟨h1, fun u hu => h2 u ?_, ih h3⟩
    cases A with
    | nil => exact hu
    | cons a A => exact hu
/-- The law's last part. -/
theorem tail_ok {G G' : List T3} {x y n d n2 d2 m : Int} {c k : Nat} (hG : okG G) (hlen : G.length ≤ 8) (hc : c ≤ G.length) (hk : 60 ≤ k) (hq : ofQ x 96 = (n, d, 0)) (t2 : At y n2 d2) (y0 : 0 ≤ y) (y1 : y ≤ 9600001)
    (hG' : G' = G.take c ++ [(x, m, false)] ++ G.drop c) (ho : okG G') (hm : micG G y = micG G' y ∨ micG G y = micG G' y + 1) (hr : ratG G y = ratG G' y) : partitalaw11_TempoSplit.j2 k true (toL G) c n2 d2 n d m false = some true := by
  obtain ⟨k, rfl⟩ : ∃ j, k = j + 1 := ⟨k - 1, by omega⟩
  have hl' : G'.length ≤ 9 := by rw [hG']; simp; omega
  have e : (toL G).take c ++ [(⟨(⟨n, d⟩ : S27), m, false⟩ : S36)] ++ (toL G).drop c = toL G' := by
    rw [hG']
    unfold toL
    rw [List.map_append, List.map_append, List.map_take, List.map_drop]
    congr 2
    unfold toS
    simp only [List.map_cons, List.map_nil]
    rw [hq]
  simp only [partitalaw11_TempoSplit.j2]
  rw [toL_length, if_pos (by omega), if_pos (by omega), Int.toNat_natCast, Option.bind_some, if_pos (by simp [toL]; omega), Option.bind_some, Option.bind_some, List.nil_append, if_pos (by simp [toL]; omega), Option.bind_some, Option.bind_some, if_pos (by simp [toL]; omega), Option.bind_some, e]
  rw [checkG ho (by omega) (by omega), Option.bind_some, rate_fG hG (by omega) (by omega) t2 y0 y1, Option.bind_some, rate_fG ho (by omega) (by omega) t2 y0 y1, Option.bind_some, micros_f hG (by omega) (by omega) t2 y0 y1, Option.bind_some, micros_f ho (by omega) (by omega) t2 y0 y1, Option.bind_some]
  simp only [if_true]
  rw [if_pos hr]
  have b := micG_step ho (x := 0) (y := y) (by omega) y0
  rw [micG_zero ho] at b
  rw [wrap64_id (n := micG G' y + 1) (by unfold i64; omega)]
  rcases hm with h | h
  · rw [if_pos h]
  · rw [if_neg (by omega), h]; simp
theorem TempoSplit : ∀ (l0 : List (S36)) (a1 : Int) (a2 : Int), (l0.length * 32 ≤ 140737488351232 ∧ ∀ y ∈ l0, wf36 y) → ((Lit.int .i64 a1).wf = true) → ((Lit.int .i64 a2).wf = true) → ∃ k, partitalaw11_TempoSplit.f k l0 a1 a2 = some true := by
  intro l a b hw ha hb
  obtain ⟨G, hG, hlen, hM⟩ := map_f hw (k := 200) (by omega)
  obtain ⟨x, n, d, p1, q1, t1, x0, x1⟩ := ref_place (i64_of ha) (k := 200) (by omega)
  obtain ⟨y, n2, d2, p2, q2, t2, y0, y1⟩ := ref_place (i64_of hb) (k := 200) (by omega)
  obtain ⟨c, k', a1, a2, a3, a5, a4⟩ := loop_split hG hlen t1 x0 (by omega) n2 d2 true G.length 200 0 (by omega) (by omega) (fun j s h => absurd h (by omega))
  refine ⟨200, ?_⟩
  unfold partitalaw11_TempoSplit.f
  rw [awake_f, Option.bind_some, hM, Option.bind_some, p1, Option.bind_some, p2, Option.bind_some]
  show partitalaw11_TempoSplit.l0 200 true (toL G) ((0 : Nat) : Int) n d n2 d2 = some true
  rw [a4]
  obtain ⟨k', rfl⟩ : ∃ m, k' = m + 1 := ⟨k' - 1, by omega⟩
  simp only [partitalaw11_TempoSplit.j1]
  have hdrop : ∀ u, (G.drop c).head? = some u → x < u.1 := fun u hu => by
    rw [List.head?_drop] at hu
    exact a3 u hu
  by_cases hc : c = 0
  · subst hc
    rw [if_neg (by omega)]
    have ht : okT (x, 500000, false) := ⟨x0, by show x ≤ 10000; omega, by show (100000 : Int) ≤ 500000; omega, by show (500000 : Int) ≤ 4000000; omega⟩
    have hZ : tempsG G = (0, 500000, false) :: G := by
      unfold tempsG
      cases G with
      | nil => rfl
      | cons t r =>
        have := hdrop t rfl
        simp only [List.head?_cons]
        rw [if_neg (by omega)]
    have ho : okG ((x, 500000, false) :: G) := ⟨ht, fun u hu => ⟨hdrop u (by simpa using hu), fun hh => by cases hh⟩, hG⟩
    have hsame : (micG G y = micG ((x, 500000, false) :: G) y ∨ micG G y = micG ((x, 500000, false) :: G) y + 1) ∧ ratG G y = ratG ((x, 500000, false) :: G) y := by
      unfold micG ratG
      rw [hZ]
      by_cases hx : x = 0
      · subst hx
        have : tempsG ((0, 500000, false) :: G) = (0, 500000, false) :: G := by unfold tempsG; simp
        rw [this]; exact ⟨.inl rfl, rfl⟩
      · have : tempsG ((x, 500000, false) :: G) = (0, 500000, false) :: (x, 500000, false) :: G := by unfold tempsG; simp [hx]
        rw [this]
        exact ins_same (s := (0, 500000, false)) (B := G) (x := x) (y := y) rfl (by show 0 < x; omega) (fun u hu => hdrop u (by simpa using hu)) [] (fun t ht => by obtain rfl := Option.some.inj ht; exact y0)
    exact tail_ok hG hlen a1 (by omega) q1 t2 y0 (by omega) (by simp) ho hsame.1 hsame.2
  · have hs : G[c - 1]? = some G[c - 1] := List.getElem?_eq_getElem (by omega)
    have hso := (okG_get hG hs).1
    have hsx := a5 (c - 1) _ (by omega) hs
    rw [if_pos (by omega), wrap64_id (by unfold i64; omega), toL_length, if_pos (by omega), if_pos (by omega), show (c : Int) - 1 = ((c - 1 : Nat) : Int) by omega, rd_toL hs]
    have hsplit : G = G.take (c - 1) ++ G[c - 1] :: G.drop c := by
      have h1 := List.take_append_drop (c - 1) G
      have h2 : G.drop (c - 1) = G[c - 1] :: G.drop (c - 1 + 1) := List.drop_eq_getElem_cons (by omega)
      rw [show c - 1 + 1 = c by omega] at h2
      rw [h2] at h1
      exact h1.symm
    have htake : G.take c = G.take (c - 1) ++ [G[c - 1]] := by
      have := List.take_add_one (l := G) (i := c - 1)
      rw [show c - 1 + 1 = c by omega, hs] at this
      simpa using this
    generalize G[c - 1] = s at *
    have hsat := toS_at hso.1 (by have := hso.2.1; omega)
    by_cases he : ((toS s).f0.f0 == n && ((toS s).f0.f1 == d)) = true
    · rw [if_pos he]
    · rw [if_neg he]
      have hne : s.1 < x := by
        by_cases hh : s.1 = x
        · exfalso
          apply he
          rw [hh] at hsat
          have := at_uniq hsat t1
          rw [this.1, this.2]; simp
        · omega
      show (if s.2.2 = true then some true else partitalaw11_TempoSplit.j2 k' true (toL G) c n2 d2 n d s.2.1 false) = some true
      by_cases hr : s.2.2 = true
      · rw [if_pos hr]
      · have hr2 := Bool.eq_false_iff.mpr hr
        rw [if_neg hr]
        have ht : okT (x, s.2.1, false) := ⟨x0, by show x ≤ 10000; omega, hso.2.2.1, hso.2.2.2⟩
        have hG' : G.take c ++ [(x, s.2.1, false)] ++ G.drop c = G.take (c - 1) ++ s :: (x, s.2.1, false) :: G.drop c := by rw [htake]; simp
        have ho : okG (G.take (c - 1) ++ s :: (x, s.2.1, false) :: G.drop c) := ins_ok hr2 hne ht hdrop _ (hsplit ▸ hG)
        have hsame : (micG G y = micG (G.take (c - 1) ++ s :: (x, s.2.1, false) :: G.drop c) y ∨ micG G y = micG (G.take (c - 1) ++ s :: (x, s.2.1, false) :: G.drop c) y + 1) ∧ ratG G y = ratG (G.take (c - 1) ++ s :: (x, s.2.1, false) :: G.drop c) y := by
          unfold micG ratG
          have hh : ∀ (A B : List T3) (P : List T3), tempsG (A ++ s :: B) = (0, 500000, false) :: (A ++ s :: B) ∧ tempsG (A ++ s :: P) = (0, 500000, false) :: (A ++ s :: P) ∨ tempsG (A ++ s :: B) = A ++ s :: B ∧ tempsG (A ++ s :: P) = A ++ s :: P ∧ ∀ t, (A ++ [s]).head? = some t → t.1 = 0 := by
            intro A B P
            cases A with
            | nil =>
              unfold tempsG
              simp only [List.nil_append, List.head?_cons]
              by_cases h0 : s.1 = 0
              · rw [if_pos h0, if_pos h0]; exact .inr ⟨rfl, rfl, fun t ht => by obtain rfl := Option.some.inj ht; exact h0⟩
              · rw [if_neg h0, if_neg h0]; exact .inl ⟨rfl, rfl⟩
            | cons v A =>
              unfold tempsG
              simp only [List.cons_append, List.head?_cons]
              by_cases h0 : v.1 = 0
              · rw [if_pos h0, if_pos h0]; exact .inr ⟨rfl, rfl, fun t ht => by obtain rfl := Option.some.inj ht; exact h0⟩
              · rw [if_neg h0, if_neg h0]; exact .inl ⟨rfl, rfl⟩
          have e1 : tempsG G = tempsG (G.take (c - 1) ++ s :: G.drop c) := congrArg tempsG hsplit
          rw [e1]
          rcases hh (G.take (c - 1)) (G.drop c) ((x, s.2.1, false) :: G.drop c) with ⟨e2, e3⟩ | ⟨e2, e3, e4⟩
          · rw [e2, e3]
            exact ins_same hr2 hne hdrop ((0, 500000, false) :: G.take (c - 1)) (fun t ht => by obtain rfl := Option.some.inj ht; exact y0)
          · rw [e2, e3]
            exact ins_same hr2 hne hdrop _ (fun t ht => by rw [e4 t ht]; exact y0)
        exact tail_ok hG hlen a1 (by omega) q1 t2 y0 (by omega) hG'.symm ho hsame.1 hsame.2
end Go.Proofs.Ytchjlkokfgmjaaa.Pure
