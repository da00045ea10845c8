/- The pieces of a text: a plain function, and that it is what the program tells. No conditions. -/
import Derived.Test.YtllccnijipgncaaDoorLex0
import Derived.Test.YtllccnijipgncaaDoorPieceW
import Derived.Test.YtllccnijipgncaaDoorQ4
namespace Go.Proofs.YtllccnijipgncaaDoor.Q
open Go.RowKit Go.Shelf Go.Proofs.YtllccnijipgncaaDoorW.PrintWords
set_option linter.unusedVariables false
theorem w64 {n : Int} (h : -9223372036854775808 ≤ n ∧ n ≤ 9223372036854775807) : wrap64 n = n := by unfold wrap64; omega
def blkB (c : UInt8) : Prop := c.toNat = 32 ∨ c.toNat = 9 ∨ c.toNat = 13
instance (c : UInt8) : Decidable (blkB c) := by unfold blkB; infer_instance
def tkL : List UInt8 → Nat → List S35 × Option Nat
  | [], _ => ([], none)
  | c :: t, a =>
    if blkB c then tkL t (a + 1)
    else if c.toNat = 35 then tkL (t.drop (t.takeWhile linB).length) (a + 1 + (t.takeWhile linB).length)
    else if (pcT (c :: t)).2.2 = 0 then ([], some a)
    else (⟨(pcT (c :: t)).1, ⟨(pcT (c :: t)).2.1.toArray⟩, a⟩ :: (tkL (t.drop ((pcT (c :: t)).2.2 - 1)) (a + (pcT (c :: t)).2.2)).1, (tkL (t.drop ((pcT (c :: t)).2.2 - 1)) (a + (pcT (c :: t)).2.2)).2)
  termination_by l => l.length
  decreasing_by all_goals simp only [List.length_drop, List.length_cons]; omega
theorem tkL_nil (a : Nat) : tkL [] a = ([], none) := by rw [tkL]
theorem tkL_blk (c : UInt8) (t : List UInt8) (a : Nat) (h : blkB c) : tkL (c :: t) a = tkL t (a + 1) := by rw [tkL, if_pos h]
theorem tkL_rem (c : UInt8) (t : List UInt8) (a : Nat) (h : c.toNat = 35) : tkL (c :: t) a = tkL (t.drop (t.takeWhile linB).length) (a + 1 + (t.takeWhile linB).length) := by
  rw [tkL, if_neg (by unfold blkB; omega), if_pos h]
theorem tkL_bad (c : UInt8) (t : List UInt8) (a : Nat) (h : ¬ blkB c) (h2 : c.toNat ≠ 35) (h3 : (pcT (c :: t)).2.2 = 0) : tkL (c :: t) a = ([], some a) := by
  rw [tkL, if_neg h, if_neg h2, if_pos h3]
theorem tkL_one (c : UInt8) (t : List UInt8) (a k' n : Nat) (k : Int) (s : List UInt8) (h : ¬ blkB c) (h2 : c.toNat ≠ 35) (h3 : pcT (c :: t) = (k, s, n + 1)) : tkL (c :: t) a = (⟨k, ⟨s.toArray⟩, a⟩ :: (tkL (t.drop n) (a + (n + 1))).1, (tkL (t.drop n) (a + (n + 1))).2) := by
  rw [tkL, if_neg h, if_neg h2, if_neg (by rw [h3]; simp)]
  simp only [h3, Nat.add_sub_cancel]
/-- How the program tells it. -/
def resT (out : List S35) (x : List S35 × Option Nat) : List S35 × Int × Int := match x.2 with
  | none => (out ++ x.1, 0, 0)
  | some p => ([], (p : Int), 180)
theorem tokens_step (k : Nat) (s : ByteArray) (out : List S35) (a : Nat) (h : a < s.size) : lex_Tokens.l0 (k + 2) s out (a : Int) =
    if blkB s[a] then lex_Tokens.l0 k s out (wrap64 ((a : Int) + 1))
    else if s[a].toNat = 35 then ((strings_IndexFunc.f s (a : Int)).bind fun t => (lex_Tokens.l0 k s out (wrap64 ((a : Int) + t))))
    else ((lex_piece.f s (a : Int)).bind fun b => (if b.2.2.2 = 0 then (some (([] : List S35), (a : Int), 180)) else (if out.length < 4398046511104 then (lex_Tokens.l0 k s (out ++ [(⟨b.1, b.2.1, b.2.2.1⟩ : S35)]) (wrap64 ((a : Int) + b.2.2.2))) else none))) := by
  have hb := bt_list s a h
  simp only [lex_Tokens.l0]
  rw [if_pos (show (a : Int) < (s.size : Int) by omega), if_pos (show (0 : Int) ≤ (a : Int) by omega), hb]
  by_cases h1 : s[a].toNat = 32
  · rw [if_pos (show (s[a].toNat : Int) = 32 by omega), if_pos (show blkB s[a] from Or.inl h1)]
    simp only [lex_Tokens.j1, if_true]
  · rw [if_neg (show ¬ (s[a].toNat : Int) = 32 by omega)]
    by_cases h2 : s[a].toNat = 9
    · rw [if_pos (show (s[a].toNat : Int) = 9 by omega), if_pos (show blkB s[a] from Or.inr (Or.inl h2))]
      simp only [lex_Tokens.j1, if_true]
    · rw [if_neg (show ¬ (s[a].toNat : Int) = 9 by omega)]
      by_cases h3 : s[a].toNat = 13
      · rw [show ((s[a].toNat : Int) == 13) = true by simp; omega, if_pos (show blkB s[a] from Or.inr (Or.inr h3))]
        simp only [lex_Tokens.j1, if_true]
      · rw [show ((s[a].toNat : Int) == 13) = false by simp; omega, if_neg (show ¬ blkB s[a] by unfold blkB; omega)]
        simp only [lex_Tokens.j1]
        rw [if_neg (by simp)]
        by_cases h4 : s[a].toNat = 35
        · rw [if_pos (show (s[a].toNat : Int) = 35 by omega), if_pos h4]
        · rw [if_neg (show ¬ (s[a].toNat : Int) = 35 by omega), if_neg h4]
theorem tokens_l0 (s : ByteArray) (hs : s.size ≤ 1000000000000) : ∀ (d a : Nat) (k : Nat) (out : List S35), s.size - a = d → a ≤ s.size → out.length ≤ a → 2 * d + 1 ≤ k → lex_Tokens.l0 k s out (a : Int) = some (resT out (tkL (s.data.toList.drop a) a)) := by
  intro d
  induction d using Nat.strongRecOn with
  | ind d ih =>
    intro a k out hd ha hout hk
    by_cases h : a < s.size
    · obtain ⟨k, rfl⟩ : ∃ m, k = m + 2 := ⟨k - 2, by omega⟩
      rw [tokens_step k s out a h, drop_cons s a h]
      have hdl : (s.data.toList.drop (a + 1)).length = s.size - (a + 1) := by rw [List.length_drop, size_list]
      by_cases h1 : blkB s[a]
      · rw [if_pos h1, tkL_blk _ _ _ h1, w64 (by omega)]
        exact ih (d - 1) (by omega) (a + 1) k out (by omega) (by omega) (by omega) (by omega)
      · rw [if_neg h1]
        by_cases h2 : s[a].toNat = 35
        · rw [if_pos h2, tkL_rem _ _ _ h2]
          have hw := while_le linB (s.data.toList.drop (a + 1))
          unfold strings_IndexFunc.f
          rw [if_pos ⟨by omega, by omega, by omega⟩]
          simp only [Option.bind_some]
          rw [Int.toNat_natCast, runL_step linB _ a (by rw [size_list]; exact h), if_pos (by
            show linB s[a] = true
            unfold linB; rw [decide_eq_true_iff]; omega)]
          unfold runL
          rw [w64 (by omega)]
          have := ih (d - 1 - ((s.data.toList.drop (a + 1)).takeWhile linB).length) (by omega) (a + 1 + ((s.data.toList.drop (a + 1)).takeWhile linB).length) k out (by omega) (by omega) (by omega) (by omega)
          rw [List.drop_drop, ← this]
          congr 1
          omega
        · rw [if_neg h2]
          unfold lex_piece.f
          rw [if_pos ⟨by omega, by omega, by omega⟩]
          simp only [Option.bind_some]
          rw [Int.toNat_natCast, drop_cons s a h]
          have hle := pcT_le (s[a] :: s.data.toList.drop (a + 1))
          rw [List.length_cons, hdl] at hle
          obtain ⟨⟨kd, st, n⟩, hp⟩ : ∃ x, pcT (s[a] :: s.data.toList.drop (a + 1)) = x := ⟨_, rfl⟩
          rw [hp] at hle ⊢
          simp only [] at hle ⊢
          cases n with
          | zero =>
            rw [if_pos (show ((0 : Nat) : Int) = 0 from rfl), tkL_bad _ _ _ h1 h2 (by rw [hp])]
            rfl
          | succ n =>
            rw [if_neg (by omega), if_pos (by omega), tkL_one _ _ _ 0 n kd st h1 h2 hp, w64 (by omega)]
            have := ih (d - (n + 1)) (by omega) (a + (n + 1)) k (out ++ [⟨kd, ⟨st.toArray⟩, (a : Int)⟩]) (by omega) (by omega) (by simp; omega) (by omega)
            rw [List.drop_drop, show a + 1 + n = a + (n + 1) by omega]
            refine Eq.trans ?_ (this.trans ?_)
            · congr 1
            · unfold resT
              cases (tkL (List.drop (a + (n + 1)) s.data.toList) (a + (n + 1))).2 with
              | none => simp
              | some p => rfl
    · obtain ⟨k, rfl⟩ : ∃ m, k = m + 1 := ⟨k - 1, by omega⟩
      simp only [lex_Tokens.l0]
      rw [if_neg (by omega), List.drop_of_length_le (by rw [size_list]; omega), tkL_nil]
      simp [resT]
theorem tokens_f (L : List UInt8) (hs : L.length ≤ 1000000000000) (k : Nat) (hk : 2 * L.length + 1 ≤ k) : lex_Tokens.f k ⟨L.toArray⟩ = some (resT [] (tkL L 0)) := by
  have hz : (⟨L.toArray⟩ : ByteArray).size = L.length := by rw [← size_list]
  exact tokens_l0 ⟨L.toArray⟩ (by omega) L.length 0 k [] (by omega) (by omega) (by simp) (by omega)
end Go.Proofs.YtllccnijipgncaaDoor.Q
