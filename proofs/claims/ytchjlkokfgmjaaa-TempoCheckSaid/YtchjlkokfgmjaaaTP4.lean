/- Plain facts on maps: which tempo isn't right; maps of places that are whole numbers of 96ths are right. No conditions. -/
import Derived.Test.YtchjlkokfgmjaaaTP3
import Derived.Test.YtchjlkokfgmjaaaQ7
namespace Go.Proofs.Ytchjlkokfgmjaaa.Q
open Go.RowKit Go.Proofs.YtchjlkokfgmjaaaW.PrintWords Go.Proofs.YtchjlkokfgmjaaaW.PrintMore
set_option linter.unusedVariables false
set_option linter.unusedSimpArgs false
def mayB (a b : Int) : Bool := rightB a b && (decide (0 ≤ a) && decide (cmpI a b 100000 1 ≤ 0))
/-- Is tempo i not right, or not above the one ahead? -/
def badT (l : List S36) (i : Nat) : Bool :=
  !(mayB (rd_T36 l i).f0.f0 (rd_T36 l i).f0.f1) || ((decide (0 < i) && decide (0 ≤ cmpI (rd_T36 l ((i : Int) - 1)).f0.f0 (rd_T36 l ((i : Int) - 1)).f0.f1 (rd_T36 l i).f0.f0 (rd_T36 l i).f0.f1)) ||
    (decide ((rd_T36 l i).f1 < 100000) || decide (4000000 < (rd_T36 l i).f1)))
def chkT (l : List S36) : Nat → Nat → Int × Int
  | 0, _ => (0, 0)
  | n + 1, i => if badT l i = true then ((i : Int), 110) else chkT l n (i + 1)
theorem may_f (a b : Int) : tempo_may.f a b = some (mayB a b) := by
  unfold tempo_may.f ratio_Right.f mayB
  cases rightB a b
  · simp
  · by_cases h : a ≥ 0
    · simp only [Option.bind_some, if_true, if_pos h, ratio_Compare.f, Bool.true_and]
      rw [decide_eq_true (show 0 ≤ a from h), Bool.true_and]
    · simp only [Option.bind_some, if_true, if_neg h]
      rw [decide_eq_false (show ¬ 0 ≤ a from h)]; simp
theorem check_l0 (l : List S36) (hl : l.length ≤ 1000) : ∀ (n k i : Nat), i + n = l.length → n < k → tempo_Check.l0 k l l (l.length : Int) (i : Int) = some (chkT l n i) := by
  intro n
  induction n with
  | zero =>
    intro k i hi hk
    obtain ⟨k, rfl⟩ : ∃ m, k = m + 1 := ⟨k - 1, by omega⟩
    simp only [tempo_Check.l0, chkT]
    rw [if_neg (by omega)]
  | succ n ih =>
    intro k i hi hk
    obtain ⟨k, rfl⟩ : ∃ m, k = m + 1 := ⟨k - 1, by omega⟩
    simp only [tempo_Check.l0, chkT]
    rw [if_pos (by omega), if_pos (by omega), if_pos (by omega), may_f]
    simp only [Option.bind_some]
    have hnext : tempo_Check.l0 k l l (l.length : Int) (wrap64 ((i : Int) + 1)) = some (chkT l n (i + 1)) := by
      rw [wrap64_id (by unfold i64; omega)]
      exact ih k (i + 1) (by omega) (by omega)
    rw [hnext]
    by_cases h1 : mayB (rd_T36 l i).f0.f0 (rd_T36 l i).f0.f1 = true
    · rw [if_pos h1]
      by_cases h4 : (i : Int) > 0
      · rw [if_pos h4, wrap64_id (n := (i : Int) - 1) (by unfold i64; omega), if_pos (by omega), if_pos (by omega)]
        simp only [ratio_Compare.f, Option.bind_some]
        by_cases h5 : 0 ≤ cmpI (rd_T36 l ((i : Int) - 1)).f0.f0 (rd_T36 l ((i : Int) - 1)).f0.f1 (rd_T36 l i).f0.f0 (rd_T36 l i).f0.f1
        · have hb : badT l i = true := by unfold badT; rw [decide_eq_true (show 0 < i by omega), decide_eq_true h5]; simp
          rw [if_pos h5, if_pos hb]
        · rw [if_neg h5]
          by_cases h2 : (rd_T36 l i).f1 < 100000
          · have hb : badT l i = true := by unfold badT; rw [decide_eq_true h2]; simp
            rw [if_pos h2, if_pos hb]
          · rw [if_neg h2]
            by_cases h3 : (rd_T36 l i).f1 > 4000000
            · have hb : badT l i = true := by unfold badT; rw [decide_eq_true (show 4000000 < (rd_T36 l i).f1 from h3)]; simp
              rw [if_pos h3, if_pos hb]
            · have hb : badT l i = false := by unfold badT; rw [h1, decide_eq_false h2, decide_eq_false (show ¬ 4000000 < (rd_T36 l i).f1 from h3), decide_eq_false h5]; simp
              rw [if_neg h3, hb, if_neg (by decide)]
      · rw [if_neg h4]
        by_cases h2 : (rd_T36 l i).f1 < 100000
        · have hb : badT l i = true := by unfold badT; rw [decide_eq_true h2]; simp
          rw [if_pos h2, if_pos hb]
        · rw [if_neg h2]
          by_cases h3 : (rd_T36 l i).f1 > 4000000
          · have hb : badT l i = true := by unfold badT; rw [decide_eq_true (show 4000000 < (rd_T36 l i).f1 from h3)]; simp
            rw [if_pos h3, if_pos hb]
          · have hb : badT l i = false := by unfold badT; rw [h1, decide_eq_false h2, decide_eq_false (show ¬ 4000000 < (rd_T36 l i).f1 from h3), decide_eq_false (show ¬ 0 < i by omega)]; simp
            rw [if_neg h3, hb, if_neg (by decide)]
    · have hb : badT l i = true := by unfold badT; rw [Bool.eq_false_iff.mpr h1]; rfl
      rw [if_neg h1, if_pos hb]
theorem check_f {l : List S36} (hl : l.length ≤ 1000) {k : Nat} (hk : l.length < k) : tempo_Check.f k l = some (chkT l l.length 0) := by
  unfold tempo_Check.f
  have := check_l0 l hl l.length k 0 (by omega) hk
  exact this
theorem chk_good (l : List S36) : ∀ (n i : Nat), (∀ j, i ≤ j → j < i + n → badT l j = false) → chkT l n i = (0, 0) := by
  intro n
  induction n with
  | zero => intro i _; rfl
  | succ n ih =>
    intro i h
    simp only [chkT]
    rw [h i (by omega) (by omega), if_neg (by decide)]
    exact ih (i + 1) (fun j h1 h2 => h j (by omega) (by omega))
theorem okG_get : ∀ {G : List T3}, okG G → ∀ {i : Nat} {t : T3}, G[i]? = some t → okT t ∧ ∀ {u : T3}, G[i + 1]? = some u → t.1 < u.1 ∧ (t.2.2 = true → u.1 - t.1 ≤ 2000) := by
  intro G
  induction G with
  | nil => intro _ i t h; simp at h
  | cons a r ih =>
    intro hok i t h
    obtain ⟨h1, h2, h3⟩ := hok
    cases i with
    | zero =>
      obtain rfl := Option.some.inj (by simpa using h : some a = some t)
      refine ⟨h1, fun {u} hu => h2 u ?_⟩
      rw [List.head?_eq_getElem?]
      simpa using hu
    | succ i => exact ih h3 (by simpa using h)
theorem far_at : At 9600000 100000 1 := ⟨⟨by omega, by omega, by omega, by omega, by decide⟩, by omega⟩
theorem mayG {t : T3} (h : okT t) : mayB (toS t).f0.f0 (toS t).f0.f1 = true := by
  have ha := toS_at h.1 (by have := h.2.1; omega)
  have hn := ha.num h.1
  have h2 := h.2.1
  unfold mayB
  rw [at_right ha h.1 (by omega), decide_eq_true hn.1, at_cmp ha far_at h.1 (by omega) (by omega) (by omega), if_pos (by omega)]
  rfl
theorem badG {G : List T3} (h : okG G) {i : Nat} (hi : i < G.length) : badT (toL G) i = false := by
  have hg : G[i]? = some G[i] := List.getElem?_eq_getElem hi
  have ho := (okG_get h hg).1
  unfold badT
  rw [rd_toL hg, mayG ho]
  have h1 : decide ((toS G[i]).f1 < 100000) = false := decide_eq_false (by have := ho.2.2.1; show ¬ G[i].2.1 < 100000; omega)
  have h2 : decide (4000000 < (toS G[i]).f1) = false := decide_eq_false (by have := ho.2.2.2; show ¬ 4000000 < G[i].2.1; omega)
  rw [h1, h2]
  by_cases h0 : 0 < i
  · have hp : G[i - 1]? = some G[i - 1] := List.getElem?_eq_getElem (by omega)
    have hop := okG_get h hp
    have hlt := (hop.2 (u := G[i]) (by rw [show i - 1 + 1 = i by omega]; exact hg)).1
    rw [show (i : Int) - 1 = ((i - 1 : Nat) : Int) by omega, rd_toL hp]
    have q1 := hop.1.2.1
    have q2 := ho.2.1
    rw [at_cmp (toS_at hop.1.1 (by omega)) (toS_at ho.1 (by omega)) hop.1.1 (by omega) ho.1 (by omega), if_pos hlt]
    simp
  · rw [decide_eq_false h0]; simp
theorem checkG {G : List T3} (h : okG G) (hl : G.length ≤ 1000) {k : Nat} (hk : G.length < k) : tempo_Check.f k (toL G) = some (0, 0) := by
  rw [check_f (by rw [toL_length]; omega) (by rw [toL_length]; omega), chk_good]
  intro j _ hj
  rw [toL_length] at hj
  exact badG h (by omega)
theorem askedG {G : List T3} (h : okG G) (hl : G.length ≤ 1000) {k : Nat} (hk : G.length < k) {x p q : Int} (ha : At x p q) (h0 : 0 ≤ x) (h1 : x ≤ 9600001) : tempo_asked.f k (toL G) p q = some 0 := by
  have hn := ha.num h0
  unfold tempo_asked.f ratio_Right.f
  rw [checkG h hl hk, Option.bind_some]
  simp only [if_true, Option.bind_some]
  rw [at_right ha h0 h1, if_pos rfl, if_neg (by omega)]
/-- One more ahead, where nothing stands at 0. -/
def tempsG (G : List T3) : List T3 := match G.head? with
  | some t => if t.1 = 0 then G else (0, 500000, false) :: G
  | none => [(0, 500000, false)]
theorem toS_zero : toS (0, 500000, false) = ⟨⟨0, 1⟩, 500000, false⟩ := by
  unfold toS
  rw [show ofQ (0, 500000, false).1 96 = (0, 1, 0) by decide]
theorem tempsL {G : List T3} (h : okG G) : tempsI (toL G) = toL (tempsG G) := by
  cases G with
  | nil => unfold tempsI tempsG toL; simp [toS_zero]
  | cons t r =>
    have h0 := h.1
    have ha := toS_at h0.1 (by have := h0.2.1; omega)
    have hrd : rd_T36 (toL (t :: r)) 0 = toS t := rd_toL (i := 0) rfl
    have hz : (toS t).f0.f0 = 0 ↔ t.1 = 0 := by
      have e := ha.2
      have p := ha.1.pos
      constructor
      · intro h
        rw [h] at e
        have : t.1 * (toS t).f0.f1 = 0 := by omega
        rcases Int.mul_eq_zero.mp this with h | h
        · exact h
        · omega
      · intro h
        rw [h] at e
        omega
    unfold tempsI tempsG
    rw [hrd]
    simp only [List.head?_cons]
    by_cases hc : t.1 = 0
    · rw [if_pos ⟨by simp [toL], hz.2 hc⟩, if_pos hc]
    · rw [if_neg (fun hh => hc (hz.1 hh.2)), if_neg hc]
      show _ = toS (0, 500000, false) :: toL (t :: r)
      rw [toS_zero]
theorem temps_ok {G : List T3} (h : okG G) : okG (tempsG G) ∧ tempsG G ≠ [] ∧ (tempsG G).length ≤ G.length + 1 ∧ ∀ t, (tempsG G).head? = some t → t.1 = 0 := by
  have z : okT (0, 500000, false) := by unfold okT; simp
  cases G with
  | nil =>
    unfold tempsG
    refine ⟨⟨z, fun u hu => by simp at hu, trivial⟩, by simp, by simp, fun t ht => ?_⟩
    obtain rfl := Option.some.inj ht
    rfl
  | cons t r =>
    unfold tempsG
    simp only [List.head?_cons]
    by_cases hc : t.1 = 0
    · rw [if_pos hc]
      refine ⟨h, by simp, by omega, fun u hu => ?_⟩
      obtain rfl := Option.some.inj (by simpa using hu : some t = some u)
      exact hc
    · rw [if_neg hc]
      refine ⟨⟨z, fun u hu => ?_, h⟩, by simp, by simp, fun u hu => ?_⟩
      · obtain rfl := Option.some.inj (by simpa using hu : some t = some u)
        have := h.1.1
        exact ⟨by show 0 < t.1; omega, fun hh => by cases hh⟩
      · obtain rfl := Option.some.inj hu
        rfl
/-- What Micros tells of such a map and such a place. -/
def micG (G : List T3) (x : Int) : Int := mics (tempsG G) x
def ratG (G : List T3) (x : Int) : Int := rats (tempsG G) x
theorem micros_f {G : List T3} (h : okG G) (hl : G.length ≤ 50) {k : Nat} (hk : 50 < k) {x p q : Int} (ha : At x p q) (h0 : 0 ≤ x) (h1 : x ≤ 9600001) : tempo_Micros.f k (toL G) p q = some (micG G x, 0) := by
  obtain ⟨t1, t2, t3, t4⟩ := temps_ok h
  unfold tempo_Micros.f
  rw [toL_length, if_pos (by omega), askedG h (by omega) (by omega) ha h0 h1, Option.bind_some, if_pos rfl, tempsL h]
  exact microsG t2 (by omega) t1 (fun t ht => by rw [t4 t ht]; exact h0) h0 h1 ha
theorem rate_fG {G : List T3} (h : okG G) (hl : G.length ≤ 50) {k : Nat} (hk : 50 < k) {x p q : Int} (ha : At x p q) (h0 : 0 ≤ x) (h1 : x ≤ 9600001) : tempo_Rate.f k (toL G) p q = some (ratG G x, 0) := by
  obtain ⟨t1, t2, t3, t4⟩ := temps_ok h
  unfold tempo_Rate.f
  rw [toL_length, if_pos (by omega), askedG h (by omega) (by omega) ha h0 h1, Option.bind_some, if_pos rfl, tempsL h]
  exact ratesG t2 (by omega) t1 (fun t ht => by rw [t4 t ht]; exact h0) h0 h1 ha
theorem awake_f (k : Nat) : partitalaw11_awake.f k = some true := rfl
end Go.Proofs.Ytchjlkokfgmjaaa.Q
