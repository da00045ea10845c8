/- TempoAhead: the plain law. No conditions. -/
import Derived.Test.YtchjlkokfgmjaaaTP5
import Derived.Test.YtchjlkokfgmjaaaTP6
import Derived.Test.YtchjlkokfgmjaaaQ10
import Derived.Test.YtchjlkokfgmjaaaQ14
namespace Go.Proofs.Ytchjlkokfgmjaaa.Pure
open Go.RowKit Go.Proofs.Ytchjlkokfgmjaaa.Q Go.Proofs.YtchjlkokfgmjaaaW.PrintWords Go.Proofs.YtchjlkokfgmjaaaW.PrintMore
set_option linter.unusedVariables false
theorem ref_place {a : Int} (ha : i64 a) {k : Nat} (hk : 1 ≤ k) : ∃ x n d, partitalaw11_place.f k a = some (n, d) ∧ ofQ x 96 = (n, d, 0) ∧ At x n d ∧ 0 ≤ x ∧ x < 2880 := by
  obtain ⟨x, hx, x0, x1⟩ := pick_f ha (n := 2880) (by omega) (by omega)
  obtain ⟨n, d, h, hq, t⟩ := ref96 x0 (by omega) hk
  refine ⟨x, n, d, ?_, hq, t, x0, x1⟩
  unfold partitalaw11_place.f
  rw [hx, Option.bind_some, h, Option.bind_some]
theorem okG_lt {G : List T3} (h : okG G) : ∀ (d : Nat) {i : Nat} {s t : T3}, G[i]? = some s → G[i + d + 1]? = some t → s.1 < t.1 := by
  intro d
  induction d with
  | zero => intro i s t hs ht; exact ((okG_get h hs).2 ht).1
  | succ d ih =>
    intro i s t hs ht
    have hl : i + d + 1 + 1 < G.length := by
      rw [List.getElem?_eq_some_iff] at ht
      obtain ⟨h1, _⟩ := ht
      omega
    have hm : G[i + d + 1]? = some G[i + d + 1] := List.getElem?_eq_getElem (by omega)
    have h1 := ih hs hm
    have h2 := ((okG_get h hm).2 ht).1
    omega
theorem okG_take : ∀ {G : List T3}, okG G → ∀ c, okG (G.take c) := by
  intro G
  induction G with
  | nil => intro _ c; simp; trivial
  | cons t r ih =>
    intro h c
    cases c with
    | zero => trivial
    | succ c =>
      obtain ⟨h1, h2, h3⟩ := h
      rw [List.take_succ_cons]
      refine ⟨h1, fun u hu => h2 u ?_, ih h3 c⟩
      cases r with
      | nil => simp at hu
      | cons v r =>
        cases c with
        | zero => simp at hu
        | succ c => simpa using hu
/-- What stands behind the next tempo makes no difference. -/
theorem take_same : ∀ {L : List T3} {x : Int} {c : Nat}, L ≠ [] → (∀ t, L.head? = some t → t.1 ≤ x) → (L.length ≤ c ∨ 1 ≤ c ∧ ∃ t, L[c - 1]? = some t ∧ x < t.1) → mics (L.take c) x = mics L x ∧ rats (L.take c) x = rats L x := by
  intro L
  induction L with
  | nil => intro x c h; exact absurd rfl h
  | cons t r ih =>
    intro x c _ hh hc
    have ht := hh t rfl
    cases r with
    | nil =>
      have : 1 ≤ c := by rcases hc with h | h <;> simp at h <;> omega
      rw [List.take_of_length_le (by simpa using this)]
      exact ⟨rfl, rfl⟩
    | cons u r =>
      have hc2 : 2 ≤ c := by
        rcases hc with h | ⟨h, s, hs, hx⟩
        · simp at h; omega
        · by_cases h1 : c = 1
          · subst h1
            obtain rfl := Option.some.inj (by simpa using hs : some t = some s)
            omega
          · omega
      obtain ⟨c, rfl⟩ : ∃ m, c = m + 2 := ⟨c - 2, by omega⟩
      rw [List.take_succ_cons, List.take_succ_cons, mics_two, mics_two, rats_two, rats_two]
      by_cases hu : u.1 ≤ x
      · rw [if_pos hu, if_pos hu, if_pos hu, if_pos hu]
        have := ih (x := x) (c := c + 1) (by simp) (fun v hv => by obtain rfl := Option.some.inj hv; exact hu) (by
          rcases hc with h | ⟨h, s, hs, hx⟩
          · left; simp at h ⊢; omega
          · right
            refine ⟨by omega, s, ?_, hx⟩
            rw [show c + 2 - 1 = c + 1 by omega] at hs
            rw [show c + 1 - 1 = c by omega]
            simpa using hs)
        rw [List.take_succ_cons] at this
        rw [this.1, this.2]
        exact ⟨rfl, rfl⟩
      · rw [if_neg hu, if_neg hu, if_neg hu, if_neg hu]
        exact ⟨rfl, rfl⟩
theorem takeG_same {G : List T3} (h : okG G) {x : Int} (x0 : 0 ≤ x) {c : Nat} (hc : G.length ≤ c ∨ 1 ≤ c ∧ ∃ t, G[c - 1]? = some t ∧ x < t.1) : micG (G.take c) x = micG G x ∧ ratG (G.take c) x = ratG G x := by
  cases G with
  | nil => simp
  | cons t r =>
    have hc1 : 1 ≤ c := by rcases hc with h | h <;> simp at h <;> omega
    obtain ⟨c, rfl⟩ : ∃ m, c = m + 1 := ⟨c - 1, by omega⟩
    unfold micG ratG tempsG
    rw [List.take_succ_cons]
    simp only [List.head?_cons]
    by_cases hz : t.1 = 0
    · rw [if_pos hz, if_pos hz]
      have := take_same (L := t :: r) (x := x) (c := c + 1) (by simp) (fun v hv => by obtain rfl := Option.some.inj hv; omega) hc
      rw [List.take_succ_cons] at this
      exact this
    · rw [if_neg hz, if_neg hz]
      have := take_same (L := (0, 500000, false) :: t :: r) (x := x) (c := c + 2) (by simp) (fun v hv => by obtain rfl := Option.some.inj hv; exact x0) (by
        rcases hc with h | ⟨h, s, hs, hx⟩
        · left; simp at h ⊢; omega
        · right
          refine ⟨by omega, s, ?_, hx⟩
          rw [show c + 2 - 1 = (c + 1 - 1) + 1 by omega, List.getElem?_cons_succ]
          exact hs)
      rw [List.take_succ_cons, List.take_succ_cons] at this
      exact this
theorem loop_ahead {G : List T3} (h : okG G) (hl : G.length ≤ 8) {x p q : Int} (ha : At x p q) (x0 : 0 ≤ x) (x1 : x ≤ 9600001) (b : Int) (ok : Bool) :
    ∀ (n k i : Nat), i + n = G.length → n < k → (∀ j s, j < i → G[j]? = some s → s.1 ≤ x) →
      ∃ c k', c ≤ G.length ∧ k ≤ k' + n + 1 ∧ (∀ s, G[c]? = some s → x < s.1) ∧ partitalaw11_TempoAhead.l0 k b ok (toL G) i p q = partitalaw11_TempoAhead.j1 k' b ok (toL G) c p q := by
  intro n
  induction n with
  | zero =>
    intro k i hi hk _
    obtain ⟨k, rfl⟩ : ∃ m, k = m + 1 := ⟨k - 1, by omega⟩
    refine ⟨i, k, by omega, by omega, fun s hs => ?_, ?_⟩
    · rw [List.getElem?_eq_none (by omega)] at hs; cases hs
    · simp only [partitalaw11_TempoAhead.l0]
      rw [toL_length, if_neg (by omega)]
  | succ n ih =>
    intro k i hi hk hj
    obtain ⟨k, rfl⟩ : ∃ m, k = m + 1 := ⟨k - 1, by omega⟩
    have hg : G[i]? = some G[i] := List.getElem?_eq_getElem (by omega)
    have ho := (okG_get h hg).1
    simp only [partitalaw11_TempoAhead.l0]
    rw [toL_length, if_pos (by omega), if_pos (by omega), rd_toL hg]
    simp only [ratio_Compare.f, Option.bind_some]
    rw [at_cmp (toS_at ho.1 (by have := ho.2.1; omega)) ha ho.1 (by have := ho.2.1; omega) x0 x1]
    by_cases hc : G[i].1 ≤ x
    · rw [if_pos (by split <;> (try split) <;> omega), wrap64_id (by unfold i64; omega)]
      obtain ⟨c, k', a1, a2, a3, a4⟩ := ih k (i + 1) (by omega) (by omega) (fun j s hji hs => by
        by_cases e : j = i
        · subst e
          rw [hg] at hs
          obtain rfl := Option.some.inj hs
          exact hc
        · exact hj j s (by omega) hs)
      exact ⟨c, k', a1, by omega, a3, a4⟩
    · rw [if_neg (by rw [if_neg (by omega), if_pos (by omega)]; omega)]
      refine ⟨i, k, by omega, by omega, fun s hs => ?_, rfl⟩
      rw [hg] at hs
      obtain rfl := Option.some.inj hs
      omega
theorem TempoAhead : ∀ (l0 : List (S36)) (a1 : Int) (a2 : Int), (l0.length * 32 ≤ 140737488351232 ∧ ∀ y ∈ l0, wf36 y) → ((Lit.int .i64 a1).wf = true) → ((Lit.int .i64 a2).wf = true) → ∃ k, partitalaw11_TempoAhead.f k l0 a1 a2 = some true := by
  intro l a b hw ha hb
  obtain ⟨G, hG, hlen, hM⟩ := map_f hw (k := 200) (by omega)
  obtain ⟨x, n, d, p1, q1, t1, x0, x1⟩ := ref_place (i64_of ha) (k := 200) (by omega)
  obtain ⟨t, ht, t0, t9⟩ := pick_f (i64_of hb) (n := 9) (by omega) (by omega)
  obtain ⟨c, k', a1, a2, a3, a4⟩ := loop_ahead hG hlen t1 x0 (by omega) b true G.length 200 0 (by omega) (by omega) (fun j s h => absurd h (by omega))
  refine ⟨200, ?_⟩
  unfold partitalaw11_TempoAhead.f
  rw [awake_f, Option.bind_some, hM, Option.bind_some, p1, Option.bind_some]
  show partitalaw11_TempoAhead.l0 200 b true (toL G) ((0 : Nat) : Int) n d = some true
  rw [a4]
  obtain ⟨k', rfl⟩ : ∃ m, k' = m + 1 := ⟨k' - 1, by omega⟩
  simp only [partitalaw11_TempoAhead.j1]
  rw [ht, Option.bind_some, toL_length, wrap64_id (n := (c : Int) + 1) (by unfold i64; omega), wrap64_id (n := (c : Int) + 1 + t) (by unfold i64; omega)]
  obtain ⟨e, he, he1, he2⟩ : ∃ e : Nat, mn ((c : Int) + 1 + t) (G.length : Int) = e ∧ e ≤ G.length ∧ (e = G.length ∨ c < e) := by
    refine ⟨(mn ((c : Int) + 1 + t) (G.length : Int)).toNat, ?_, ?_, ?_⟩ <;> (unfold mn; split <;> omega)
  rw [he, if_pos (by omega), if_pos (by omega), Option.bind_some, Int.toNat_natCast]
  have hT : (toL G).take e = toL (G.take e) := by unfold toL; rw [List.map_take]
  have hl2 : (G.take e).length ≤ 8 := by rw [List.length_take]; omega
  have hO := okG_take hG e
  have hS := takeG_same hG (x := x) x0 (c := e) (by
    rcases he2 with h | h
    · left; omega
    · by_cases hh : e = G.length
      · left; omega
      · right
        refine ⟨by omega, G[e - 1], List.getElem?_eq_getElem (by omega), ?_⟩
        have hcg : G[c]? = some G[c] := List.getElem?_eq_getElem (by omega)
        have h1 := a3 _ hcg
        by_cases e1 : e - 1 = c
        · have h2 : G[e - 1]? = some G[e - 1] := List.getElem?_eq_getElem (by omega)
          generalize G[e - 1] = v at *
          rw [e1] at h2
          exact a3 _ h2
        · have h2 := okG_lt hG (e - 1 - c - 1) hcg (t := G[e - 1]) (by rw [show c + (e - 1 - c - 1) + 1 = e - 1 by omega]; exact List.getElem?_eq_getElem (by omega))
          omega)
  rw [hT, micros_f hG (by omega) (by omega) t1 x0 (by omega), Option.bind_some, micros_f hO (by omega) (by omega) t1 x0 (by omega), Option.bind_some, rate_fG hG (by omega) (by omega) t1 x0 (by omega), Option.bind_some, rate_fG hO (by omega) (by omega) t1 x0 (by omega), Option.bind_some]
  simp only [if_true]
  rw [hS.1, hS.2, if_pos rfl]
  simp
end Go.Proofs.Ytchjlkokfgmjaaa.Pure
