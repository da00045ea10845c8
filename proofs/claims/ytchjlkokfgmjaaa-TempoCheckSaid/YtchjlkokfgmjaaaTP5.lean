/- Plain facts: raw numbers, raw maps. No conditions. -/
import Derived.Test.YtchjlkokfgmjaaaTP4
import Derived.Test.YtchjlkokfgmjaaaRefOf
import Derived.Test.YtchjlkokfgmjaaaKinds
import Derived.Test.YtchjlkokfgmjaaaQ8
namespace Go.Proofs.Ytchjlkokfgmjaaa.Q
open Go.RowKit Go.Proofs.YtchjlkokfgmjaaaW.PrintWords Go.Proofs.YtchjlkokfgmjaaaW.PrintMore
set_option linter.unusedVariables false
set_option linter.unusedSimpArgs false
theorem pick_f {a n : Int} (ha : i64 a) (hn : 0 < n) (hn2 : n ≤ 1000000000) : ∃ r, partitalaw11_pick.f a n = some r ∧ 0 ≤ r ∧ r < n := by
  unfold partitalaw11_pick.f
  unfold i64 at ha
  by_cases h : a < 0
  · rw [if_pos h, if_neg (by omega), wrap64_id (n := a + 1) (by unfold i64; omega), wrap64_id (n := -(a + 1)) (by unfold i64; omega)]
    exact ⟨_, rfl, Int.tmod_nonneg _ (by omega), Int.tmod_lt_of_pos _ hn⟩
  · rw [if_neg h, if_neg (by omega)]
    exact ⟨_, rfl, Int.tmod_nonneg _ (by omega), Int.tmod_lt_of_pos _ hn⟩
theorem ref96 {x : Int} (h0 : 0 ≤ x) (h1 : x ≤ 9600001) {k : Nat} (hk : 1 ≤ k) : ∃ n d, partitaref01_Of.f k x 96 = some (n, d, 0) ∧ ofQ x 96 = (n, d, 0) ∧ At x n d := by
  obtain ⟨n, d, h, ha⟩ := at_new h0 h1
  obtain ⟨k, rfl⟩ : ∃ m, k = m + 1 := ⟨k - 1, by omega⟩
  exact ⟨n, d, by rw [refOf (by unfold i64; omega) (by unfold i64; omega), h], h, ha⟩
theorem okG_snoc : ∀ {G : List T3} {t : T3}, okG G → okT t → (∀ s, G.getLast? = some s → s.1 < t.1 ∧ t.1 - s.1 ≤ 2000) → okG (G ++ [t]) := by
  intro G t
  induction G with
  | nil => intro _ ht _; exact ⟨ht, fun u hu => by simp at hu, trivial⟩
  | cons a r ih =>
    intro hok ht hl
    obtain ⟨h1, h2, h3⟩ := hok
    refine ⟨h1, fun u hu => ?_, ?_⟩
    · cases r with
      | nil =>
        obtain rfl := Option.some.inj (by simpa using hu : some t = some u)
        have := hl a rfl
        exact ⟨this.1, fun _ => this.2⟩
      | cons b r => exact h2 u (by simpa using hu)
    · cases r with
      | nil => exact ⟨ht, fun u hu => by simp at hu, trivial⟩
      | cons b r => exact ih h3 ht (fun s hs => hl s (by rw [List.getLast?_cons_cons]; exact hs))
theorem in36 {l : List S36} (h : ∀ y ∈ l, wf36 y) {i : Int} (h0 : 0 ≤ i) (h1 : i < l.length) : i64 (rd_T36 l i).f0.f0 ∧ i64 (rd_T36 l i).f0.f1 ∧ i64 (rd_T36 l i).f1 := by
  have hm : rd_T36 l i ∈ l := by
    unfold rd_T36
    rw [List.getD_eq_getElem?_getD, List.getElem?_eq_getElem (by omega), Option.getD_some]
    exact List.getElem_mem _
  have := h _ hm
  exact ⟨i64_of this.1.1, i64_of this.1.2, i64_of this.2.1⟩
theorem map_l0 {l : List S36} (hw : ∀ y ∈ l, wf36 y) (hlen : l.length ≤ 4398046511104) : ∀ (n k : Nat) (G : List T3) (at_ : Int) (i : Nat), i + n = 8 → 2 * n + 2 ≤ k → okG G → G.length = i → -1 ≤ at_ → at_ ≤ 240 * i → (∀ s, G.getLast? = some s → s.1 = at_) →
    ∃ G', okG G' ∧ G'.length ≤ 8 ∧ partitalaw11_Map.l0 k l (toL G) at_ i = some (toL G') := by
  intro n
  induction n with
  | zero =>
    intro k G a i hi hk hok hG _ _ _
    obtain ⟨k, rfl⟩ : ∃ m, k = m + 2 := ⟨k - 2, by omega⟩
    refine ⟨G, hok, by omega, ?_⟩
    have hi8 : (i : Int) = 8 := by omega
    rw [hi8]
    by_cases h : (8 : Int) < l.length
    · simp only [partitalaw11_Map.l0, if_pos h, partitalaw11_Map.j1]; simp
    · simp only [partitalaw11_Map.l0, if_neg h, partitalaw11_Map.j1]; simp
  | succ n ih =>
    intro k G a i hi hk hok hG ha0 ha1 hlast
    obtain ⟨k, rfl⟩ : ∃ m, k = m + 2 := ⟨k - 2, by omega⟩
    by_cases h : (i : Int) < l.length
    · simp only [partitalaw11_Map.l0, if_pos h, partitalaw11_Map.j1]
      obtain ⟨w1, w2, w3⟩ := in36 hw (i := (i : Int)) (by omega) h
      obtain ⟨p, hp, hp0, hp1⟩ := pick_f w1 (n := 240) (by omega) (by omega)
      obtain ⟨m, hm, hm0, hm1⟩ := pick_f w3 (n := 3900001) (by omega) (by omega)
      rw [decide_eq_true (show (i : Int) < 8 by omega), if_pos rfl, if_pos (by omega), hp, Option.bind_some]
      rw [wrap64_id (n := a + 1) (by unfold i64; omega), wrap64_id (n := a + 1 + p) (by unfold i64; omega)]
      obtain ⟨nn, dd, ho, hq, hat⟩ := ref96 (x := a + 1 + p) (by omega) (by omega) (k := k) (by omega)
      rw [ho, Option.bind_some, hm, Option.bind_some, toL_length, if_pos (by omega), wrap64_id (n := 100000 + m) (by unfold i64; omega), wrap64_id (n := (i : Int) + 1) (by unfold i64; omega)]
      have e : toL G ++ [(⟨(⟨nn, dd⟩ : S27), 100000 + m, (rd_T36 l (i : Int)).f2⟩ : S36)] = toL (G ++ [(a + 1 + p, 100000 + m, (rd_T36 l (i : Int)).f2)]) := by
        unfold toL
        rw [List.map_append]
        unfold toS
        simp only [List.map_cons, List.map_nil]
        rw [hq]
      rw [e]
      have hokt : okT (a + 1 + p, 100000 + m, (rd_T36 l (i : Int)).f2) := ⟨by show 0 ≤ a + 1 + p; omega, by show a + 1 + p ≤ 10000; omega, by show 100000 ≤ 100000 + m; omega, by show 100000 + m ≤ 4000000; omega⟩
      exact ih k _ (a + 1 + p) (i + 1) (by omega) (by omega) (okG_snoc hok hokt (fun s hs => by have := hlast s hs; show s.1 < a + 1 + p ∧ a + 1 + p - s.1 ≤ 2000; omega)) (by simp; omega) (by omega) (by omega) (fun s hs => by
        rw [List.getLast?_append] at hs
        obtain rfl := Option.some.inj (by simpa using hs : some (a + 1 + p, 100000 + m, (rd_T36 l (i : Int)).f2) = some s)
        rfl)
    · refine ⟨G, hok, by omega, ?_⟩
      simp only [partitalaw11_Map.l0, if_neg h, partitalaw11_Map.j1]; simp
theorem map_f {l : List S36} (hw : l.length * 32 ≤ 140737488351232 ∧ ∀ y ∈ l, wf36 y) {k : Nat} (hk : 20 ≤ k) : ∃ G, okG G ∧ G.length ≤ 8 ∧ partitalaw11_Map.f k l = some (toL G) := by
  obtain ⟨G, h1, h2, h3⟩ := map_l0 hw.2 (by omega) 8 k [] (-1) 0 (by omega) (by omega) trivial rfl (by omega) (by omega) (fun s hs => by simp at hs)
  exact ⟨G, h1, h2, h3⟩
end Go.Proofs.Ytchjlkokfgmjaaa.Q
