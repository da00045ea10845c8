/- Plain facts: the last place whose time isn't above some time. No conditions. -/
import Derived.Test.YtchjlkokfgmjaaaTP6
import Derived.Test.YtchjlkokfgmjaaaQ7
import Derived.Test.YtchjlkokfgmjaaaQ15
namespace Go.Proofs.Ytchjlkokfgmjaaa.Q
open Go.RowKit Go.Proofs.YtchjlkokfgmjaaaW.PrintWords Go.Proofs.YtchjlkokfgmjaaaW.PrintMore
set_option linter.unusedVariables false
set_option linter.unusedSimpArgs false
theorem search_f {p : Int → Option Bool} {late : Int → Bool} {n : Int} (hp : ∀ x, 0 ≤ x → x < n → p x = some (late x)) (hm : ∀ x y, 0 ≤ x → x ≤ y → y < n → late x = true → late y = true) :
    ∀ (m : Nat) (i j : Int), 0 ≤ i → i ≤ j → j ≤ n → j - i < 2 ^ m → ∃ r, searchO p (m + 1) i j = some r ∧ i ≤ r ∧ r ≤ j ∧ (∀ x, i ≤ x → x < r → late x = false) ∧ (r < j → late r = true) := by
  intro m
  induction m with
  | zero =>
    intro i j h0 h1 h2 h3
    refine ⟨i, ?_, Int.le_refl _, h1, fun x a b => absurd b (by omega), fun h => by omega⟩
    unfold searchO
    rw [if_neg (by omega)]
  | succ m ih =>
    intro i j h0 h1 h2 h3
    have e2 : (2 : Int) ^ (m + 1) = 2 * 2 ^ m := by rw [Int.pow_succ]; omega
    unfold searchO
    by_cases h : i < j
    · rw [if_pos h, hp _ (by omega) (by omega), Option.bind_some]
      by_cases hl : late ((i + j) / 2) = true
      · rw [if_pos hl]
        obtain ⟨r, a1, a2, a3, a4, a5⟩ := ih i ((i + j) / 2) h0 (by omega) (by omega) (by omega)
        refine ⟨r, a1, a2, by omega, a4, fun hr => ?_⟩
        by_cases hc : r < (i + j) / 2
        · exact a5 hc
        · have : r = (i + j) / 2 := by omega
          rw [this]; exact hl
      · rw [if_neg hl]
        obtain ⟨r, a1, a2, a3, a4, a5⟩ := ih ((i + j) / 2 + 1) j (by omega) (by omega) h2 (by omega)
        refine ⟨r, a1, by omega, a3, fun x b1 b2 => ?_, a5⟩
        by_cases hc : x ≤ (i + j) / 2
        · by_cases hlx : late x = true
          · exact absurd (hm x _ (by omega) hc (by omega) hlx) hl
          · exact Bool.eq_false_iff.mpr hlx
        · exact a4 x (by omega) b2
    · rw [if_neg h]
      exact ⟨i, rfl, Int.le_refl _, h1, fun x a b => absurd b (by omega), fun h => by omega⟩
theorem idx_none {p : S36 → Bool} : ∀ {l : List S36}, (∀ d ∈ l, p d = false) → idxI p l = -1 := by
  intro l
  induction l with
  | nil => intro _; rfl
  | cons d l ih =>
    intro h
    simp only [idxI]
    rw [h d (by simp), if_neg (by decide), ih (fun e he => h e (by simp [he])), if_pos rfl]
theorem mem_ok : ∀ {G : List T3}, okG G → ∀ t ∈ G, okT t := by
  intro G
  induction G with
  | nil => intro _ t h; cases h
  | cons a r ih =>
    intro h t ht
    rcases List.mem_cons.mp ht with rfl | ht
    · exact h.1
    · exact ih h.2.2 t ht
/-- What Place tells, on the grid of 96ths: x, the last place whose time isn't above s. -/
theorem place_f {G : List T3} (h : okG G) (hl : G.length ≤ 50) {k : Nat} (hk : 50 < k) {s : Int} (hs : 0 ≤ s) :
    ∃ x n d, tempo_Place.f k (toL G) s 96 = some (n, d, 0) ∧ ofQ x 96 = (n, d, 0) ∧ At x n d ∧ 0 ≤ x ∧ x ≤ 9600000 ∧ micG G x ≤ s ∧ (x < 9600000 → s < micG G (x + 1)) := by
  have hp : ∀ x, 0 ≤ x → x < 9600001 → lateO k (toL G) 96 s x = some (decide (s < micG G x)) := by
    intro x h0 h1
    obtain ⟨n, d, hq, ha⟩ := at_new h0 (by omega)
    unfold lateO
    rw [ratioOf (by unfold i64; omega) (by unfold i64; omega), hq, Option.bind_some, micros_f h hl hk ha h0 (by omega), Option.bind_some]
  have hm : ∀ x y, 0 ≤ x → x ≤ y → y < 9600001 → decide (s < micG G x) = true → decide (s < micG G y) = true := by
    intro x y h0 hxy _ hlt
    have := micG_step h h0 hxy
    have h2 := of_decide_eq_true hlt
    exact decide_eq_true (by omega)
  obtain ⟨r, a1, a2, a3, a4, a5⟩ := search_f hp hm 63 0 9600001 (by omega) (by omega) (by omega) (by decide)
  have hz := micG_zero h
  have hr1 : 1 ≤ r := by
    by_cases hc : 1 ≤ r
    · exact hc
    · have e : r = 0 := by omega
      subst e
      have := of_decide_eq_true (a5 (by omega))
      omega
  obtain ⟨n, d, hq, ha⟩ := at_new (x := r - 1) (by omega) (by omega)
  refine ⟨r - 1, n, d, ?_, hq, ha, by omega, by omega, ?_, ?_⟩
  · have hall : ((toL G).all fun d => d.f0.f1 != 0) = true := by
      rw [List.all_eq_true]
      intro y hy
      obtain ⟨t, ht, rfl⟩ := List.mem_map.mp hy
      have ho := mem_ok h t ht
      have := (toS_at ho.1 (by have := ho.2.1; omega)).den
      exact bne_iff_ne.mpr (by omega)
    have hodd : idxI (oddB 96) (toL G) = -1 := by
      refine idx_none fun y hy => ?_
      obtain ⟨t, ht, rfl⟩ := List.mem_map.mp hy
      have ho := mem_ok h t ht
      have hd := (toS_at ho.1 (by have := ho.2.1; omega)).den
      unfold oddB
      rw [Int.tmod_eq_emod_of_nonneg (by omega), Int.emod_eq_zero_of_dvd hd.2.2]
      rfl
    unfold tempo_Place.f
    rw [toL_length, if_pos (by omega), checkG h (by omega) (by omega), Option.bind_some, if_pos rfl, if_neg (by omega), if_neg (by omega), if_neg (by omega), if_pos hall, hodd, if_neg (by omega)]
    rw [show (100000 * 96 + 1 : Int) = 9600001 by omega]
    rw [show (64 : Nat) = 63 + 1 from rfl, a1, Option.bind_some, wrap64_id (by unfold i64; omega), ratioOf (by unfold i64; omega) (by unfold i64; omega), hq]
  · have := of_decide_eq_false (a4 (r - 1) (by omega) (by omega))
    omega
  · intro hlt
    have := of_decide_eq_true (a5 (by omega))
    rw [show r - 1 + 1 = r by omega]
    exact this
theorem at_add {x y a b c d : Int} (h1 : At x a b) (h2 : At y c d) (hx : 0 ≤ x) (hy : 0 ≤ y) (hxy : x + y ≤ 9600001) : ∃ n e, ratio_Add.f a b c d = some (n, e, 0) ∧ At (x + y) n e := by
  have n1 := h1.num hx
  have n2 := h2.num hy
  have q1 := h1.den
  have q2 := h2.den
  have b1 := bd (a := a) (b := d) (A := x) (B := 96) (by omega) (by omega) (by omega) (by omega)
  have b2 := bd (a := c) (b := b) (A := y) (B := 96) (by omega) (by omega) (by omega) (by omega)
  have b3 := bd (a := b) (b := d) (A := 96) (B := 96) (by omega) (by omega) (by omega) (by omega)
  have b4 : 0 < b * d := Int.mul_pos (by omega) (by omega)
  unfold ratio_Add.f doI
  rw [at_right h1 (by omega) (by omega), at_right h2 hy (by omega), Bool.and_self, if_pos rfl, wrap64_id (n := a * d) (by unfold i64; omega), wrap64_id (n := c * b) (by unfold i64; omega), wrap64_id (n := b * d) (by unfold i64; omega), wrap64_id (by unfold i64; omega), ratioOf (by unfold i64; omega) (by unfold i64; omega)]
  obtain ⟨n, e, h, hr, he⟩ := ofQ_ok (a := a * d + c * b) (b := b * d) (by omega) (by omega) (by omega)
  refine ⟨n, e, by rw [h], hr, ?_⟩
  have e1 := h1.2
  have e2 := h2.2
  have k1 : (a * d) * 96 = x * (b * d) := by rw [Int.mul_right_comm, e1, Int.mul_assoc]
  have k2 : (c * b) * 96 = y * (b * d) := by rw [Int.mul_right_comm, e2, Int.mul_assoc, Int.mul_comm d b]
  have k3 : (a * d + c * b) * 96 = (x + y) * (b * d) := by rw [Int.add_mul, Int.add_mul, k1, k2]
  have k4 : (n * 96) * (b * d) = ((x + y) * e) * (b * d) := by
    rw [Int.mul_right_comm, he, Int.mul_right_comm, k3, Int.mul_right_comm]
  exact Int.eq_of_mul_eq_mul_right (by omega) k4
end Go.Proofs.Ytchjlkokfgmjaaa.Q
