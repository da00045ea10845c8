/- A text cut ahead of where no piece begins; pieces without their places. No conditions. -/
import Derived.Test.YtllccnijipgncaaDoorLex5
namespace Go.Proofs.YtllccnijipgncaaDoor.Q
open Go.RowKit Go.Shelf Go.Proofs.YtllccnijipgncaaDoorW.PrintWords
set_option linter.unusedVariables false
theorem while_take (p : UInt8 → Bool) : ∀ (l : List UInt8) (m : Nat), (l.takeWhile p).length ≤ m → (l.take m).takeWhile p = l.takeWhile p
  | [], m, _ => by simp
  | c :: t, 0, h => by
    rw [List.takeWhile_cons] at h ⊢
    split at h
    · simp at h
    · rename_i hp; rw [if_neg hp]; rfl
  | c :: t, m + 1, h => by
    rw [List.takeWhile_cons] at h
    rw [List.take_succ_cons, List.takeWhile_cons, List.takeWhile_cons]
    split
    · rename_i hp
      rw [if_pos hp] at h
      rw [while_take p t m (by simpa using h)]
    · rfl
theorem qtd_take : ∀ (l acc : List UInt8) (j : Nat) (x : List UInt8) (M m : Nat), qtd l acc j = some (x, M) → M ≤ j + m → qtd (l.take m) acc j = some (x, M)
  | [], _, _, _, _, _, h, _ => by simp [qtd] at h
  | c :: t, acc, j, x, M, 0, h, hm => by
    have := qtd_le _ _ _ _ _ h
    omega
  | [c], acc, j, x, M, m + 1, h, hm => by
    rw [List.take_of_length_le (by simp)]; exact h
  | c :: d :: r, acc, j, x, M, m + 1, h, hm => by
    rw [List.take_succ_cons]
    have hle := qtd_le _ _ _ _ _ h
    unfold qtd at h ⊢
    split at h
    · cases h
    rename_i g1
    rw [if_neg g1]
    split at h
    · rename_i g2
      rw [if_pos g2]; exact h
    rename_i g2
    rw [if_neg g2]
    split at h
    · rename_i g3
      rw [if_pos g3]
      exact qtd_take (d :: r) _ _ _ _ m h (by omega)
    rename_i g3
    rw [if_neg g3]
    simp only [] at h
    split at h
    · cases h
    rename_i y hy
    have h2 := qtd_le _ _ _ _ _ h
    obtain ⟨m, rfl⟩ : ∃ q, m = q + 1 := ⟨m - 1, by omega⟩
    rw [List.take_succ_cons]
    simp only [hy]
    exact qtd_take r _ _ _ _ m h (by omega)
theorem pcT_take (c : UInt8) (t : List UInt8) (k : Int) (s : List UInt8) (n m : Nat) (h : pcT (c :: t) = (k, s, n + 1)) (hm : n ≤ m) : pcT (c :: t.take m) = (k, s, n + 1) := by
  have hdig : (t.takeWhile digB).length ≤ m → (t.take m).takeWhile digB = t.takeWhile digB := while_take digB t m
  have hpre : ((t.take m).takeWhile digB).length ≤ (t.takeWhile digB).length := by
    by_cases h : (t.takeWhile digB).length ≤ m
    · rw [hdig h]; exact Nat.le_refl _
    · have := while_le digB (t.take m); rw [List.length_take] at this; omega
  unfold pcT at h ⊢
  dsimp only at h ⊢
  split at h
  · rename_i hl
    rw [if_pos hl]
    have hn := (trip h).2.2
    have := while_take innB (c :: t) (m + 1) (by omega)
    rw [List.take_succ_cons] at this
    rw [this]; exact h
  rename_i hl
  rw [if_neg hl]
  split at h
  · rename_i hd
    have hw : (t.take m).takeWhile digB = t.takeWhile digB := by
      apply hdig
      split at h
      · have := (trip h).2.2; omega
      · have := (trip h).2.2; omega
    rw [hw, if_pos hd]; exact h
  rename_i hd
  rw [if_neg (fun e => hd (e.imp id (fun e => ⟨e.1, by omega⟩)))]
  split at h
  · rename_i h34
    rw [if_pos h34]
    split at h
    · have := (trip h).2.2; omega
    · rename_i x M hq
      have := (trip h).2.2
      rw [qtd_take t [] 1 x M m hq (by omega)]; exact h
  rename_i h34
  rw [if_neg h34]
  exact h
theorem tk_cut (L : List UInt8) (a : Nat) : ∀ l p, tkL L a = (l, some p) → a ≤ p ∧ p < a + L.length ∧ tkL (L.take (p - a)) a = (l, none) ∧ ∀ b, tkL (L.drop (p - a)) b = ([], some b) := by
  refine tk_ind (P := fun L a x => ∀ l p, x = (l, some p) → a ≤ p ∧ p < a + L.length ∧ tkL (L.take (p - a)) a = (l, none) ∧ ∀ b, tkL (L.drop (p - a)) b = ([], some b)) (fun a l p h => by injection h with _ h; cases h) ?_ ?_ ?_ L.length L (Nat.le_refl _) a
  · intro c t a n hn ih l p h
    obtain ⟨h1, h2, h3, h4⟩ := ih l p h
    have hnt : n ≤ t.length := by
      rcases hn with ⟨_, rfl⟩ | ⟨_, _, rfl⟩
      · omega
      · exact while_le linB t
    rw [List.length_drop] at h2
    obtain ⟨M, hM⟩ : ∃ M, p - a = M + 1 := ⟨p - a - 1, by omega⟩
    refine ⟨by omega, by simp only [List.length_cons]; omega, ?_, fun b => ?_⟩
    · rw [hM, List.take_succ_cons]
      rcases hn with ⟨hb, rfl⟩ | ⟨h35, hb, rfl⟩
      · rw [tkL_blk _ _ _ hb]
        rw [List.drop_zero, Nat.add_zero, show p - (a + 1) = M by omega] at h3
        exact h3
      · have hw := while_take linB t M (by omega)
        rw [tkL_rem _ _ _ h35, hw, List.drop_take]
        rw [show p - (a + 1 + (t.takeWhile linB).length) = M - (t.takeWhile linB).length by omega] at h3
        exact h3
    · rw [hM, List.drop_succ_cons]
      have := h4 b
      rw [List.drop_drop, show n + (p - (a + 1 + n)) = M by omega] at this
      exact this
  · intro c t a hb h35 hz l p h
    injection h with h1 h2
    injection h2 with h2
    subst h1 h2
    refine ⟨Nat.le_refl _, by simp, ?_, fun b => ?_⟩
    · rw [Nat.sub_self]; exact tkL_nil a
    · rw [Nat.sub_self]; exact tkL_bad c t b hb h35 hz
  · intro c t a k s n hb h35 hp hn ih l p h
    injection h with h1 h2
    obtain ⟨g1, g2, g3, g4⟩ := ih (tkL (t.drop n) (a + (n + 1))).1 p (by rw [← h2])
    rw [List.length_drop] at g2
    obtain ⟨M, hM⟩ : ∃ M, p - a = M + 1 := ⟨p - a - 1, by omega⟩
    refine ⟨by omega, by simp only [List.length_cons]; omega, ?_, fun b => ?_⟩
    · rw [hM, List.take_succ_cons, tkL_one c (t.take M) a 0 n k s hb h35 (pcT_take c t k s n M hp (by omega)), List.drop_take]
      rw [show p - (a + (n + 1)) = M - n by omega] at g3
      rw [g3, ← h1]
    · rw [hM, List.drop_succ_cons]
      have := g4 b
      rw [List.drop_drop, show n + (p - (a + (n + 1))) = M by omega] at this
      exact this
theorem bare_txt : ∀ (l m : List S35) (p : Int), bare m = bare l → txt p m = txt p l
  | [], [], _, _ => rfl
  | [], y :: m, _, h => by simp [bare] at h
  | x :: l, [], _, h => by simp [bare] at h
  | x :: l, y :: m, p, h => by
    unfold bare at h
    simp only [List.map_cons] at h
    injection h with h1 h2
    injection h1 with e0 e1 e2
    unfold txt
    rw [e0, e1, bare_txt l m x.f0 h2]
theorem bare_all : ∀ (l m : List S35), bare m = bare l → m.all rgtX = l.all rgtX
  | [], [], _ => rfl
  | [], y :: m, h => by simp [bare] at h
  | x :: l, [], h => by simp [bare] at h
  | x :: l, y :: m, h => by
    unfold bare at h
    simp only [List.map_cons] at h
    injection h with h1 h2
    injection h1 with e0 e1 e2
    rw [List.all_cons, List.all_cons, bare_all l m h2]
    unfold rgtX
    rw [e0, e1]
theorem bare_size {l m : List S35} (h : bare m = bare l) {N : Nat} (hl : ∀ x ∈ l, x.f1.size ≤ N) : ∀ y ∈ m, y.f1.size ≤ N := by
  intro y hy
  have h1 : (⟨y.f0, y.f1, 0⟩ : S35) ∈ bare l := by rw [← h]; exact List.mem_map.2 ⟨y, hy, rfl⟩
  obtain ⟨x, hx, e⟩ := List.mem_map.1 h1
  injection e with _ e1 _
  rw [← e1]; exact hl x hx
theorem txt_le (l : List S35) : ∀ (p : Int), (∀ x ∈ l, x.f1.size ≤ 1000000) → (txt p l).length ≤ l.length * 2000003 := by
  induction l with
  | nil => intro p _; simp [txt]
  | cons x r ih =>
    intro p h
    have h1 := sep_le p x.f0
    have h2 := bod_le x.f0 x.f1 (h x List.mem_cons_self)
    have h3 := ih x.f0 (fun y hy => h y (List.mem_cons_of_mem _ hy))
    unfold txt
    simp only [List.length_append, List.length_cons]
    omega
theorem tokens_s (s : ByteArray) (hs : s.size ≤ 1000000000000) (k : Nat) (hk : 2 * s.size + 1 ≤ k) : lex_Tokens.f k s = some (resT [] (tkL s.data.toList 0)) :=
  tokens_f s.data.toList (by rw [size_list]; exact hs) k (by rw [size_list]; exact hk)
end Go.Proofs.YtllccnijipgncaaDoor.Q
