/- MeterSame: the plain law. No conditions. -/
import Derived.Test.YtbncdlnnjhadgaaMP3
import Derived.Test.YtbncdlnnjhadgaaQ17
namespace Go.Proofs.Ytbncdlnnjhadgaa.Pure
open Go.RowKit Go.Proofs.Ytbncdlnnjhadgaa.Q Go.Proofs.YtbncdlnnjhadgaaW.PrintWords Go.Proofs.YtbncdlnnjhadgaaW.PrintMore
set_option linter.unusedVariables false
set_option linter.unusedSimpArgs false
theorem rd_nat {l : List Int} {i : Nat} (h : i < l.length) : rd l (i : Int) = l[i] := by simp [rd, List.getD, h]
theorem equal_l0 {a b : List Int} (h : a.length = b.length) (hl : a.length ≤ 100000) : ∀ (m k i : Nat), i + m = a.length → m + 1 ≤ k → slices_Equal_int_int.l0 k a b (a.length : Int) i = some (decide (a.drop i = b.drop i)) := by
  intro m
  induction m with
  | zero =>
    intro k i hi hk
    obtain ⟨k, rfl⟩ : ∃ j, k = j + 1 := ⟨k - 1, by omega⟩
    rw [slices_Equal_int_int.l0, if_neg (by omega), List.drop_of_length_le (by omega), List.drop_of_length_le (by omega)]; rfl
  | succ m ih =>
    intro k i hi hk
    obtain ⟨k, rfl⟩ : ∃ j, k = j + 1 := ⟨k - 1, by omega⟩
    rw [slices_Equal_int_int.l0, if_pos (by omega), if_pos (by omega), if_pos (by omega), if_pos (by omega), rd_drop (l := a) (by omega), rd_drop (l := b) (by omega)]
    by_cases c : rd a i = rd b i
    · rw [if_pos c, wrap64_id (n := (i : Int) + 1) (by unfold i64; omega)]
      rw [show ((i : Int) + 1) = ((i + 1 : Nat) : Int) by omega, ih k (i + 1) (by omega) (by omega), c]
      simp
    · rw [if_neg c]
      congr 1
      symm; rw [decide_eq_false_iff_not]
      intro e
      exact c (List.cons.inj e).1
theorem equal_f (a b : List Int) (hl : a.length ≤ 100000) {k : Nat} (hk : 100001 ≤ k) : slices_Equal_int_int.f k a b = some (decide (a = b)) := by
  unfold slices_Equal_int_int.f
  by_cases h : (a.length : Int) = b.length
  · rw [if_pos h]
    have := equal_l0 (a := a) (b := b) (by omega) hl a.length k 0 (by omega) (by omega)
    simpa using this
  · rw [if_neg h]
    congr 1
    symm; rw [decide_eq_false_iff_not]
    rintro rfl; exact h rfl
theorem same_f (n d : Int) (l : List Int) (n' d' : Int) (l' : List Int) (hl : l.length ≤ 100000) {k : Nat} (hk : 100001 ≤ k) : meter_Same.f k n d l n' d' l' = some (decide (n = n' ∧ d = d' ∧ l = l')) := by
  unfold meter_Same.f
  by_cases h : n = n'
  · rw [if_pos h]
    by_cases h2 : d = d'
    · rw [if_pos h2, equal_f _ _ hl hk]
      simp [h, h2]
    · rw [if_neg h2]; simp [h2]
  · rw [if_neg h]; simp [h]
theorem okG_over {e : Bool} {x : Int} : ∀ {l : List Int} {left : Int}, l.sum = left → (x = 0 ∨ x = 1) → okG e left (l ++ [x]) = false
  | [], left, h, hx => by
    simp at h
    rw [List.nil_append, okG]
    rcases hx with rfl | rfl
    · simp
    · rw [show decide ((1 : Int) ≤ left) = false from decide_eq_false (by omega)]; simp
  | g :: l, left, h, hx => by
    rw [List.sum_cons] at h
    rw [List.cons_append, okG, okG_over (l := l) (by omega) hx]; simp
theorem right_over {n d : Int} {G : List Int} (h : GM n d G) (hs : G.sum = n) {x : Int} (hx : x = 0 ∨ x = 1) : rightM n d (G ++ [x]) = false := by
  unfold rightM
  rw [okG_over hs hx]; simp
theorem MeterSame : ∀ (x0 : S24) (x1 : S24), (wf24 x0) → (wf24 x1) → ∃ k, partitalaw05_MeterSame.f k x0.f0 x0.f1 x0.f2 x1.f0 x1.f1 x1.f2 = some true := by
  intro x0 x1 ⟨w0, w1, w2, w3⟩ ⟨v0, v1, v2, v3⟩
  obtain ⟨n, d, G0, hm, gm, hG0, _⟩ := meter_f (i64_of w0) (i64_of w1) (fun y hy => i64_of (w3 y hy)) (by omega) false (k := 200000) (by omega)
  obtain ⟨n', d', G, hg, gg, _, hG⟩ := meter_f (i64_of w0) (i64_of w1) (fun y hy => i64_of (w3 y hy)) (by omega) true (k := 200000) (by omega)
  obtain ⟨n2, d2, H, hn, gn, _, hH⟩ := meter_f (i64_of v0) (i64_of v1) (fun y hy => i64_of (v3 y hy)) (by omega) true (k := 200000) (by omega)
  obtain rfl := hG0 rfl
  have hs := hG rfl
  have hlG := gg.len
  have hlH := gn.len
  -- both have the same numbers
  have enum : n' = n ∧ d' = d := by
    unfold partitalaw05_Meter.f at hm hg
    obtain ⟨p, hp, hm⟩ := Option.bind_eq_some_iff.mp hm
    obtain ⟨q, hq, hm⟩ := Option.bind_eq_some_iff.mp hm
    rw [hp, hq] at hg
    simp only [Option.bind_some] at hg
    split at hm
    · rename_i hq0
      rw [if_pos hq0] at hg
      have l0n : ∀ (g : Bool) (k : Nat) (left i : Int) (a b : Int) (l2 : List Int) (N D : Int) (G : List Int) (n d : Int) (G' : List Int), partitalaw05_Meter.l0 k g left i a b l2 N D G = some (n, d, G') → n = N ∧ d = D := by
        intro g k
        induction k using Nat.strongRecOn with
        | ind k ih =>
          intro left i a b l2 N D G n d G' h
          cases k with
          | zero => cases h
          | succ k =>
            cases k with
            | zero => rw [partitalaw05_Meter.l0] at h; split at h <;> cases h
            | succ k =>
              have st : ∀ c, partitalaw05_Meter.j1 (k + 1) g left i c a b l2 N D G = some (n, d, G') → n = N ∧ d = D := by
                intro c h
                rw [partitalaw05_Meter.j1] at h
                split at h
                · split at h
                  · split at h
                    · obtain ⟨t, _, h⟩ := Option.bind_eq_some_iff.mp h
                      split at h
                      · exact ih k (by omega) _ _ _ _ _ _ _ _ _ _ _ h
                      · cases h
                    · cases h
                  · split at h
                    · exact ih k (by omega) _ _ _ _ _ _ _ _ _ _ _ h
                    · cases h
                · have := Option.some.inj h
                  simp only [Prod.mk.injEq] at this
                  exact ⟨this.1.symm, this.2.1.symm⟩
              rw [partitalaw05_Meter.l0] at h
              split at h
              · exact st _ h
              · exact st _ h
      have e1 := l0n _ _ _ _ _ _ _ _ _ _ _ _ _ hm
      have e2 := l0n _ _ _ _ _ _ _ _ _ _ _ _ _ hg
      exact ⟨e2.1.trans e1.1.symm, e2.2.trans e1.2.symm⟩
    · cases hm
  obtain ⟨rfl, rfl⟩ := enum
  obtain ⟨lx, ly, hL, hLa⟩ := len_at gm (k := 200000) (by omega)
  obtain ⟨mx', my, hM, hMa⟩ := len_at gg (k := 200000) (by omega)
  have hd := gg.d64
  obtain ⟨rfl, rfl⟩ := at_uniq (by omega) hLa hMa
  have hne : ¬ G = [] := by rintro rfl; simp at hs; have := gg.n1; omega
  have hne2 : ¬ ([] : List Int) = G := fun e => hne e.symm
  have odd : meter_Length.f 199999 n' d' (G ++ [1]) = some (0, 0, 50) := by
    unfold meter_Length.f
    rw [right_f (by simp; omega) (by simp; omega), right_over gg hs (.inr rfl)]; rfl
  refine ⟨200000, ?_⟩
  unfold partitalaw05_MeterSame.f
  simp only [partitalaw05_awake.f, Option.bind_some, hm, hg, hn, hL, hM]
  rw [same_f _ _ _ _ _ _ (by simp) (by omega), same_f _ _ _ _ _ _ (by omega) (by omega), same_f _ _ _ _ _ _ (by simp) (by omega), same_f _ _ _ _ _ _ (by omega) (by omega), same_f _ _ _ _ _ _ (by omega) (by omega)]
  simp only [Option.bind_some, and_self, decide_true, if_true, hne2, and_false, decide_false, Bool.false_eq_true, if_false]
  have hx : (decide (n' = n2 ∧ d' = d2 ∧ G = H) != decide (n2 = n' ∧ d2 = d' ∧ H = G)) = false := by
    have : (n' = n2 ∧ d' = d2 ∧ G = H) ↔ (n2 = n' ∧ d2 = d' ∧ H = G) := ⟨fun h => ⟨h.1.symm, h.2.1.symm, h.2.2.symm⟩, fun h => ⟨h.1.symm, h.2.1.symm, h.2.2.symm⟩⟩
    simp [this]
  rw [hx, partitalaw05_MeterSame.j0, if_neg (by decide)]
  have hlt : G.length < 17592186044416 := by omega
  simp only [List.nil_append, List.length_nil, Nat.zero_add, Option.bind_some, hlt, if_true]
  rw [odd]
  simp only [Option.bind_some, if_true, beq_self_eq_true, Bool.and_self]
  rw [right_f (by simp) (by simp), right_f (by omega) (by omega), right_f (by simp; omega) (by simp; omega), right_f (by simp; omega) (by simp; omega), gm.right, gg.right, right_over gg hs (.inr rfl), right_over gg hs (.inl rfl), same_f _ _ _ _ _ _ (by omega) (by omega)]
  simp
end Go.Proofs.Ytbncdlnnjhadgaa.Pure
