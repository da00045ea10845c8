/- DynLouder: the plain law: marks never make a note softer, and louder by no more than 25; in which turn they come, and how often, makes no difference. No conditions. -/
import Derived.Test.YtiifeheejapegaaDP9
import Derived.Test.YtiifeheejapegaaQ14
namespace Go.Proofs.Ytiifeheejapegaa.Pure
open Go.RowKit Go.Proofs.Ytiifeheejapegaa.Q Go.Proofs.YtiifeheejapegaaW.PrintWords Go.Proofs.YtiifeheejapegaaW.PrintMore
/-- Turned round, each one twice. -/
def twice : List Int → List Int
  | [] => []
  | m :: l => twice l ++ [m, m]
theorem twice_mem (v : Int) : ∀ l : List Int, v ∈ twice l ↔ v ∈ l := by
  intro l; induction l with
  | nil => simp [twice]
  | cons m l ih => simp only [twice, List.mem_append, ih, List.mem_cons]; simp; exact Or.comm
theorem twice_any (p : Int → Bool) (l : List Int) : (twice l).any p = l.any p := by
  rw [Bool.eq_iff_iff, List.any_eq_true, List.any_eq_true]
  constructor
  · rintro ⟨x, h, h2⟩; exact ⟨x, (twice_mem x l).1 h, h2⟩
  · rintro ⟨x, h, h2⟩; exact ⟨x, (twice_mem x l).2 h, h2⟩
theorem twice_len (l : List Int) : (twice l).length = 2 * l.length := by
  induction l with
  | nil => rfl
  | cons m l ih => simp only [twice, List.length_append, List.length_cons, ih]; simp; omega
theorem louder_l0 {l : List S36} {ms : List Int} {a b n e v : Int} (hm : ms.length ≤ 20) (hv : ∀ k, 3000 < k → dyn_Velocity.f k l a b (twice ms) = some (v, 0)) (he : e = 0) (h1 : n ≤ v) (h2 : v ≤ mn (wrap64 (n + 25)) 127) :
    ∀ (d k : Nat) (out : List Int), d ≤ ms.length → d + 3002 < k → out = twice (ms.drop d) → partitalaw12_DynLouder.l0 k l ms true n e v out ((d : Int) - 1) a b = some true := by
  intro d
  induction d with
  | zero =>
    intro k out hd hk ho
    obtain ⟨k, rfl⟩ : ∃ m, k = m + 1 := ⟨k - 1, by omega⟩
    simp only [partitalaw12_DynLouder.l0]
    rw [if_neg (by omega)]
    rw [List.drop_zero] at ho
    rw [ho, hv k (by omega), Option.bind_some, if_pos rfl, if_pos he, if_pos h1, if_pos h2, if_pos trivial]
    simp
  | succ d ih =>
    intro k out hd hk ho
    obtain ⟨k, rfl⟩ : ∃ m, k = m + 1 := ⟨k - 1, by omega⟩
    simp only [partitalaw12_DynLouder.l0]
    have hl : out.length ≤ 40 := by rw [ho, twice_len, List.length_drop]; omega
    rw [show ((d + 1 : Nat) : Int) - 1 = d by omega, if_pos (by omega), if_pos (by omega), if_pos (by omega), Option.bind_some, if_pos (by simp; omega), wrap64_id (n := (d : Int) - 1) (by unfold i64; omega)]
    refine ih k _ (by omega) (by omega) ?_
    rw [ho, drop_cons (show d < ms.length by omega)]
    rfl
theorem velV_same {n : Int} {a b : List Int} (h : ∀ v : Int, v ∈ a ↔ v ∈ b) : velV n a = velV n b := by
  unfold velV
  by_cases h3 : (3 : Int) ∈ a <;> by_cases h2 : (2 : Int) ∈ a <;> simp [h3, h2, (h 3).1, (h 2).1, ← h]
theorem DynLouder : ∀ (l0 : List (S36)) (x1 : S29) (l2 : List Int), (l0.length * 32 ≤ 140737488351232 ∧ ∀ y ∈ l0, wf36 y) → (wf29 x1) → (l2.length * 8 ≤ 140737488351232 ∧ ∀ y ∈ l2, (Lit.int .i64 y).wf = true) → ∃ k, partitalaw12_DynLouder.f k l0 x1.f0 x1.f1 l2 = some true := by
  intro l x ms hw hx hms
  refine ⟨6000, ?_⟩
  unfold partitalaw12_DynLouder.f
  rw [awake_f (by omega), Option.bind_some]
  by_cases hl : (l.length : Int) > 20
  · rw [if_pos hl]; simp [partitalaw12_DynLouder.j0]
  · rw [if_neg hl]
    by_cases hm : (ms.length : Int) > 20
    · rw [decide_eq_true hm]; simp [partitalaw12_DynLouder.j0]
    · rw [decide_eq_false hm]
      obtain ⟨⟨n, e⟩, hr, h1, _⟩ := level_f (l := l) (by omega) (in36_of hw.2) (i64_of hx.1) (i64_of hx.2)
      have hb := levelIs_bd (in36_of hw.2) hr
      simp only [] at hb
      simp only [partitalaw12_DynLouder.j0]
      have hvel : ∀ k, 3000 < k → ∀ zs : List Int, zs.length ≤ 1000 → dyn_Velocity.f k l x.f0 x.f1 zs = some (if e = 0 then (if zs.any badMark = true then (0, 2) else (velV n zs, 0)) else (0, e)) := fun k hk zs hz => dynVel_f (by omega) hz (by omega) (h1 k hk)
      rw [if_neg (by decide), h1 5999 (by omega), Option.bind_some, hvel 5999 (by omega) ms (by omega), Option.bind_some]
      by_cases he : e = 0
      · simp only [if_pos he]
        by_cases hbad : ms.any badMark = true
        · simp only [if_pos hbad]; rw [if_neg (by decide)]; simp
        · simp only [if_neg hbad]
          rw [if_pos trivial, wrap64_id (n := (ms.length : Int) - 1) (by unfold i64; omega)]
          have hle : n ≤ velV n ms ∧ velV n ms ≤ mn (wrap64 (n + 25)) 127 := by
            rw [wrap64_id (n := n + 25) (by unfold i64; omega)]
            unfold velV mn
            constructor
            · split <;> (split <;> split <;> omega)
            · (repeat' split) <;> omega
          refine louder_l0 (by omega) (fun k hk => ?_) he hle.1 hle.2 ms.length 5999 [] (Nat.le_refl _) (by omega) (by rw [List.drop_length]; rfl)
          rw [hvel k hk (twice ms) (by rw [twice_len]; omega), if_pos he, twice_any, if_neg hbad, velV_same (twice_mem · ms)]
      · simp only [if_neg he]
        simp
end Go.Proofs.Ytiifeheejapegaa.Pure
