import Derived.Test.YtllccnijipgncaaDoorLetDig
import Derived.Test.YtllccnijipgncaaDoorPcs
namespace Go.Proofs.YtllccnijipgncaaDoor.Q
open Go.RowKit Go.Shelf Go.Proofs.YtllccnijipgncaaDoorW.PrintWords
theorem qtd_le : ∀ (l acc : List UInt8) (n : Nat) (t : List UInt8) (m : Nat), qtd l acc n = some (t, m) → n < m ∧ m ≤ n + l.length
  | [], _, _, _, _, h => by simp [qtd] at h
  | [c], acc, n, t, m, h => by
    unfold qtd at h
    split at h
    · cases h
    split at h
    · split at h
      · obtain ⟨rfl, rfl⟩ := Prod.mk.inj (Option.some.inj h); simp
      · cases h
    split at h
    · simp [qtd] at h
    · cases h
  | c :: d :: r, acc, n, t, m, h => by
    unfold qtd at h
    split at h
    · cases h
    split at h
    · split at h
      · obtain ⟨rfl, rfl⟩ := Prod.mk.inj (Option.some.inj h); simp
      · cases h
    split at h
    · have := qtd_le (d :: r) _ _ _ _ h
      simp only [List.length_cons] at this ⊢; omega
    · simp only [] at h
      split at h
      · cases h
      · have := qtd_le r _ _ _ _ h
        simp only [List.length_cons] at this ⊢; omega
theorem while_le (p : UInt8 → Bool) (l : List UInt8) : (l.takeWhile p).length ≤ l.length := (List.takeWhile_prefix p).length_le
theorem pcT_le (l : List UInt8) : (pcT l).2.2 ≤ l.length := by
  cases l with
  | nil => simp [pcT]
  | cons c t =>
    have h1 := while_le innB (c :: t)
    have h2 := while_le digB t
    unfold pcT
    dsimp only
    split
    · exact h1
    split
    · split
      · simp only [List.length_cons]; omega
      · simp
    split
    · split
      · simp
      · rename_i x n hq
        have := qtd_le _ _ _ _ _ hq
        simp only [List.length_cons]; omega
    split
    · simp
    split <;> simp
end Go.Proofs.YtllccnijipgncaaDoor.Q
