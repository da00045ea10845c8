/- What the pieces of a text are: right, short, one behind the other; a text cut ahead of a place. No conditions. -/
import Derived.Test.YtllccnijipgncaaDoorLex4
namespace Go.Proofs.YtllccnijipgncaaDoor.Q
open Go.RowKit Go.Shelf Go.Proofs.YtllccnijipgncaaDoorW.PrintWords
set_option linter.unusedVariables false
theorem qtd_ins : ∀ (l acc : List UInt8) (n : Nat) (t : List UInt8) (m : Nat), qtd l acc n = some (t, m) → insL t = true ∧ t.length + n + 1 ≤ acc.length + m
  | [], _, _, _, _, h => by simp [qtd] at h
  | [c], acc, n, t, m, h => by
    unfold qtd at h
    split at h
    · cases h
    split at h
    · split at h
      · rename_i hi
        obtain ⟨rfl, rfl⟩ := Prod.mk.inj (Option.some.inj h); exact ⟨hi, by omega⟩
      · cases h
    split at h
    · simp [qtd] at h
    · cases h
  | c :: d :: r, acc, n, t, m, h => by
    unfold qtd at h
    split at h
    · cases h
    split at h
    · split at h
      · rename_i hi
        obtain ⟨rfl, rfl⟩ := Prod.mk.inj (Option.some.inj h); exact ⟨hi, by omega⟩
      · cases h
    split at h
    · have := qtd_ins (d :: r) _ _ _ _ h
      refine ⟨this.1, ?_⟩
      have h2 := this.2
      simp only [List.length_append, List.length_cons, List.length_nil] at h2
      omega
    · simp only [] at h
      split at h
      · cases h
      · have := qtd_ins r _ _ _ _ h
        refine ⟨this.1, ?_⟩
        have h2 := this.2
        simp only [List.length_append, List.length_cons, List.length_nil] at h2
        omega
theorem all_while (p : UInt8 → Bool) (l : List UInt8) : (l.takeWhile p).all p = true := by
  induction l with
  | nil => rfl
  | cons c t ih =>
    rw [List.takeWhile_cons]
    split
    · rename_i h; rw [List.all_cons, h, ih]; rfl
    · rfl
theorem trip {α β γ : Type} {k k' : α} {s s' : β} {n n' : γ} (h : (k, s, n) = (k', s', n')) : k = k' ∧ s = s' ∧ n = n' := by
  injection h with h1 h2; injection h2 with h2 h3; exact ⟨h1, h2, h3⟩
/-- A piece is right, and no longer than what it was read from; its first byte is what its text begins with; but for quoted ones it is the text itself. -/
theorem pcT_ok (c : UInt8) (t : List UInt8) (k : Int) (s : List UInt8) (n : Nat) (h : pcT (c :: t) = (k, s, n + 1)) :
    rgtL k s = true ∧ s.length ≤ n + 1 ∧ (∃ u, bodL k ⟨s.toArray⟩ = c :: u) ∧ (k ≠ 3 → s = (c :: t).take (n + 1) ∧ s.length = n + 1) := by
  unfold pcT at h
  dsimp only at h
  split at h
  · rename_i hl
    obtain ⟨rfl, rfl, hn⟩ := trip h
    have hw : (c :: t).takeWhile innB = c :: t.takeWhile innB := by
      rw [List.takeWhile_cons, if_pos (by unfold innB; rw [hl]; rfl)]
    have hall := all_while innB (c :: t)
    refine ⟨?_, by omega, ⟨t.takeWhile innB, by rw [bod_k 1 _ (by decide), hw]⟩, fun _ => ⟨by rw [← hn, take_while], hn⟩⟩
    unfold rgtL
    rw [if_pos rfl, hw]
    rw [hw] at hall
    simp only [hl, hall, Bool.and_self]
  split at h
  · rename_i hd
    split at h
    · rename_i hw
      obtain ⟨rfl, rfl, hn⟩ := trip h
      refine ⟨?_, by simp only [List.length_cons]; omega, ⟨t.takeWhile digB, bod_k 2 _ (by decide)⟩, fun _ => ⟨?_, by simp only [List.length_cons]; omega⟩⟩
      · unfold rgtL; rw [if_neg (by decide), if_pos rfl]; exact hw
      · rw [← hn, List.take_succ_cons, take_while]
    · obtain ⟨_, _, hn⟩ := trip h
      omega
  split at h
  · rename_i h34
    split at h
    · obtain ⟨_, _, hn⟩ := trip h
      omega
    · rename_i x m hq
      obtain ⟨rfl, rfl, rfl⟩ := trip h
      have hi := qtd_ins _ _ _ _ _ hq
      refine ⟨?_, by have := hi.2; simp at this; omega, ⟨x.flatMap qtB ++ [34], ?_⟩, fun h3 => absurd rfl h3⟩
      · unfold rgtL; rw [if_neg (by decide), if_neg (by decide), if_pos rfl]; exact hi.1
      · rw [bod_3 x hi.1]; unfold quoL; rw [show c = 34 from UInt8.toNat_inj.1 h34]; simp
  split at h
  · rename_i h10
    obtain ⟨rfl, rfl, hn⟩ := trip h
    obtain rfl : n = 0 := by omega
    refine ⟨?_, by simp, ⟨[], bod_k 5 _ (by decide)⟩, fun _ => ⟨by simp, by simp⟩⟩
    unfold rgtL
    rw [if_neg (by decide), if_neg (by decide), if_neg (by decide), if_neg (by decide), if_pos rfl, show c = 10 from UInt8.toNat_inj.1 h10]; rfl
  split at h
  · rename_i hg
    obtain ⟨rfl, rfl, hn⟩ := trip h
    obtain rfl : n = 0 := by omega
    refine ⟨?_, by simp, ⟨[], bod_k 4 _ (by decide)⟩, fun _ => ⟨by simp, by simp⟩⟩
    unfold rgtL
    rw [if_neg (by decide), if_neg (by decide), if_neg (by decide), if_pos rfl]; exact hg
  · obtain ⟨_, _, hn⟩ := trip h
    omega
/-- Pieces that stand one behind the other in a text, each where its first byte is. -/
def Plc (L : List UInt8) : Int → List S35 → Prop
  | _, [] => True
  | last, x :: r => last < x.f2 ∧ (∃ n : Nat, ∃ h : n < L.length, x.f2 = (n : Int) ∧ (∃ u, bodL x.f0 x.f1 = L[n] :: u) ∧ (x.f0 ≠ 3 → x.f1.data.toList = (L.drop n).take x.f1.size ∧ n + x.f1.size ≤ L.length)) ∧ rgtX x = true ∧ x.f1.size ≤ L.length ∧ Plc L x.f2 r
/-- By what step a text's pieces are told. -/
theorem tk_ind {P : List UInt8 → Nat → List S35 × Option Nat → Prop} (h0 : ∀ a, P [] a ([], none))
    (h1 : ∀ c t a n, (blkB c ∧ n = 0 ∨ c.toNat = 35 ∧ ¬ blkB c ∧ n = (t.takeWhile linB).length) → P (t.drop n) (a + 1 + n) (tkL (t.drop n) (a + 1 + n)) → P (c :: t) a (tkL (t.drop n) (a + 1 + n)))
    (h2 : ∀ c t a, ¬ blkB c → c.toNat ≠ 35 → (pcT (c :: t)).2.2 = 0 → P (c :: t) a ([], some a))
    (h3 : ∀ c t a k s n, ¬ blkB c → c.toNat ≠ 35 → pcT (c :: t) = (k, s, n + 1) → n ≤ t.length → P (t.drop n) (a + (n + 1)) (tkL (t.drop n) (a + (n + 1))) → P (c :: t) a (⟨k, ⟨s.toArray⟩, a⟩ :: (tkL (t.drop n) (a + (n + 1))).1, (tkL (t.drop n) (a + (n + 1))).2)) :
    ∀ (m : Nat) (L : List UInt8), L.length ≤ m → ∀ a, P L a (tkL L a)
  | _, [], _, a => by rw [tkL_nil]; exact h0 a
  | 0, c :: t, hm, a => by simp at hm
  | m + 1, c :: t, hm, a => by
    have ih := tk_ind h0 h1 h2 h3 m
    simp only [List.length_cons] at hm
    by_cases hb : blkB c
    · rw [tkL_blk c t a hb]
      have := h1 c t a 0 (Or.inl ⟨hb, rfl⟩)
      simp only [List.drop_zero, Nat.add_zero] at this
      exact this (ih t (by omega) _)
    · by_cases h35 : c.toNat = 35
      · rw [tkL_rem c t a h35]
        exact h1 c t a _ (Or.inr ⟨h35, hb, rfl⟩) (ih _ (by rw [List.length_drop]; omega) _)
      · by_cases hz : (pcT (c :: t)).2.2 = 0
        · rw [tkL_bad c t a hb h35 hz]; exact h2 c t a hb h35 hz
        · obtain ⟨⟨k, s, n⟩, hp⟩ : ∃ x, pcT (c :: t) = x := ⟨_, rfl⟩
          have hle := pcT_le (c :: t)
          rw [hp] at hz hle
          obtain ⟨n, rfl⟩ : ∃ m, n = m + 1 := ⟨n - 1, by simp only [] at hz; omega⟩
          simp only [List.length_cons] at hle
          rw [tkL_one c t a 0 n k s hb h35 hp]
          exact h3 c t a k s n hb h35 hp (by omega) (ih _ (by rw [List.length_drop]; omega) _)
theorem tk_plc (L0 : List UInt8) : ∀ (L : List UInt8) (a : Nat), L0.drop a = L → ∀ last : Int, last < a → Plc L0 last (tkL L a).1 := by
  intro L a
  refine tk_ind (P := fun L a x => L0.drop a = L → ∀ last : Int, last < a → Plc L0 last x.1) (fun a _ _ _ => trivial) ?_ (fun _ _ _ _ _ _ _ _ _ => trivial) ?_ L.length L (Nat.le_refl _) a
  · intro c t a n _ ih hd last hl
    exact ih (by rw [Nat.add_assoc, ← List.drop_drop, hd, Nat.add_comm 1 n, List.drop_succ_cons]) last (by omega)
  · intro c t a k s n hb h35 hp hn ih hd last hl
    have hlen := congrArg List.length hd
    rw [List.length_drop, List.length_cons] at hlen
    have ha : a < L0.length := by omega
    have hc : L0[a] = c := by
      have := List.drop_eq_getElem_cons ha
      rw [hd] at this
      injection this with h1 _; exact h1.symm
    obtain ⟨g1, g2, ⟨u, g3⟩, g4⟩ := pcT_ok c t k s n hp
    have hz : (⟨s.toArray⟩ : ByteArray).size = s.length := size_mk s
    refine ⟨hl, ⟨a, ha, rfl, ⟨u, by rw [hc]; exact g3⟩, fun h3 => ?_⟩, g1, by rw [hz]; omega, ?_⟩
    · obtain ⟨e1, e2⟩ := g4 h3
      show s = (L0.drop a).take (⟨s.toArray⟩ : ByteArray).size ∧ a + (⟨s.toArray⟩ : ByteArray).size ≤ _
      rw [hz, hd, e2]
      exact ⟨e1, by omega⟩
    · exact ih (by rw [show a + (n + 1) = a + (n + 1) from rfl, ← List.drop_drop, hd, List.drop_succ_cons]) a (by omega)
theorem plc_right {L : List UInt8} : ∀ {l : List S35} {last : Int}, Plc L last l → l.all rgtX = true ∧ ∀ x ∈ l, x.f1.size ≤ L.length
  | [], _, _ => ⟨rfl, fun x h => by cases h⟩
  | x :: r, last, h => by
    obtain ⟨_, _, h1, h2, h3⟩ := h
    have ih := plc_right h3
    refine ⟨by rw [List.all_cons, h1, ih.1]; rfl, fun y hy => ?_⟩
    rcases List.mem_cons.1 hy with rfl | hy
    · exact h2
    · exact ih.2 y hy
theorem tk_len : ∀ (L : List UInt8) (a : Nat), (tkL L a).1.length ≤ L.length := by
  intro L a
  refine tk_ind (P := fun L a x => x.1.length ≤ L.length) (fun a => by simp) ?_ (fun _ _ _ _ _ _ => by simp) ?_ L.length L (Nat.le_refl _) a
  · intro c t a n _ ih
    rw [List.length_drop] at ih; simp only [List.length_cons]; omega
  · intro c t a k s n _ _ _ _ ih
    rw [List.length_drop] at ih; simp only [List.length_cons]; omega
theorem tk_right (L : List UInt8) : (tkL L 0).1.all rgtX = true ∧ ∀ x ∈ (tkL L 0).1, x.f1.size ≤ L.length :=
  plc_right (tk_plc L L 0 (List.drop_zero) (-1) (by omega))
end Go.Proofs.YtllccnijipgncaaDoor.Q
