/- The document's Few, Bare, Same; the pieces of a printed text. No conditions. -/
import Derived.Test.YtllccnijipgncaaDoorLex3
import Derived.Test.YtllccnijipgncaaDoorQ17
import Derived.Test.YtllccnijipgncaaDoorQ13
import Derived.Test.YtllccnijipgncaaDoorQ11
import Derived.Test.YtllccnijipgncaaDoorQ6
namespace Go.Proofs.YtllccnijipgncaaDoor.Q
open Go.RowKit Go.Shelf Go.Proofs.YtllccnijipgncaaDoorW.PrintWords
set_option linter.unusedVariables false
set_option maxRecDepth 100000 in
theorem awake_f : partitalaw18_awake.f 100 = some true := by kernel_rfl
theorem awake_k : ∀ d, partitalaw18_awake.f (100 + d) = some true
  | 0 => awake_f
  | d + 1 => partitalaw18_awake.mono _ _ (awake_k d)
theorem awake_ge (k : Nat) (h : 100 ≤ k) : partitalaw18_awake.f k = some true := by
  have := awake_k (k - 100); rwa [show 100 + (k - 100) = k by omega] at this
def bare (l : List S35) : List S35 := l.map fun x => ⟨x.f0, x.f1, 0⟩
theorem few_l0 (l : List S35) (hn : l.length ≤ 4398046511104) : ∀ (d i k : Nat), 31 - i = d → i ≤ 31 → i ≤ l.length → 2 * d + 2 ≤ k → (∀ j (h : j < l.length), j < i → l[j].f1.size ≤ 60) →
    ∃ b, partitaref18_Few.l0 k l (i : Int) = some b ∧ (b = true → l.length ≤ 30 ∧ ∀ x ∈ l, x.f1.size ≤ 60) := by
  intro d
  induction d with
  | zero =>
    intro i k hd hi hil hk hall
    obtain ⟨k, rfl⟩ : ∃ m, k = m + 2 := ⟨k - 2, by omega⟩
    simp only [partitaref18_Few.l0]
    by_cases h : i < l.length
    · rw [if_pos (show (i : Int) < (l.length : Int) by omega), decide_eq_false (by omega)]
      simp only [partitaref18_Few.j1]
      rw [if_neg (by simp)]
      exact ⟨_, rfl, fun hb => by have := of_decide_eq_true hb; omega⟩
    · rw [if_neg (by omega)]
      simp only [partitaref18_Few.j1]
      rw [if_neg (by simp)]
      exact ⟨_, rfl, fun hb => by have := of_decide_eq_true hb; omega⟩
  | succ d ih =>
    intro i k hd hi hil hk hall
    obtain ⟨k, rfl⟩ : ∃ m, k = m + 2 := ⟨k - 2, by omega⟩
    simp only [partitaref18_Few.l0]
    by_cases h : i < l.length
    · rw [if_pos (show (i : Int) < (l.length : Int) by omega), decide_eq_true (by omega)]
      simp only [partitaref18_Few.j1]
      rw [if_pos trivial, if_pos (by omega), if_pos (show (i : Int) < (l.length : Int) by omega), rd_getd l i h]
      by_cases hs : (l[i].f1.size : Int) > 60
      · rw [if_pos hs]; exact ⟨_, rfl, fun h => by cases h⟩
      · rw [if_neg hs, w64 (by omega)]
        refine ih (i + 1) k (by omega) (by omega) (by omega) (by omega) (fun j hj hji => ?_)
        by_cases e : j = i
        · subst e; omega
        · exact hall j hj (by omega)
    · rw [if_neg (by omega)]
      simp only [partitaref18_Few.j1]
      rw [if_neg (by simp)]
      refine ⟨_, rfl, fun hb => ⟨by have := of_decide_eq_true hb; omega, fun x hx => ?_⟩⟩
      obtain ⟨j, hj, rfl⟩ := List.mem_iff_getElem.1 hx
      exact hall j hj (by omega)
theorem few_f (l : List S35) (hn : l.length ≤ 4398046511104) (k : Nat) (hk : 100 ≤ k) : ∃ b, partitaref18_Few.f k l = some b ∧ (b = true → l.length ≤ 30 ∧ ∀ x ∈ l, x.f1.size ≤ 60) :=
  few_l0 l hn 31 0 k (by omega) (by omega) (by omega) (by omega) (fun j _ h => by omega)
theorem bare_l0 (l : List S35) (hn : l.length < 4398046511104) : ∀ (d i k : Nat), l.length - i = d → i ≤ l.length → d + 1 ≤ k → partitaref18_Bare.l0 k l (bare (l.take i)) (i : Int) = some (bare l) := by
  intro d
  induction d with
  | zero =>
    intro i k hd hi hk
    obtain ⟨k, rfl⟩ : ∃ m, k = m + 1 := ⟨k - 1, by omega⟩
    simp only [partitaref18_Bare.l0]
    rw [if_neg (by omega), List.take_of_length_le (by omega)]
  | succ d ih =>
    intro i k hd hi hk
    obtain ⟨k, rfl⟩ : ∃ m, k = m + 1 := ⟨k - 1, by omega⟩
    have h : i < l.length := by omega
    simp only [partitaref18_Bare.l0]
    rw [if_pos (show (i : Int) < (l.length : Int) by omega), if_pos (by omega), if_pos (by unfold bare; rw [List.length_map, List.length_take]; omega), rd_getd l i h, w64 (by omega)]
    have := ih (i + 1) k (by omega) (by omega) (by omega)
    rw [List.take_succ_eq_append_getElem h] at this
    unfold bare at this ⊢
    rw [List.map_append] at this
    exact this
theorem bare_f (l : List S35) (hn : l.length < 4398046511104) (k : Nat) (hk : l.length + 1 ≤ k) : partitaref18_Bare.f k l = some (bare l) :=
  bare_l0 l hn l.length 0 k (by omega) (by omega) hk
theorem same_l0 (l : List S35) (hn : l.length < 4398046511104) : ∀ (d i k : Nat), l.length - i = d → i ≤ l.length → d + 1 ≤ k → partitaref18_Same.l0 k l l (i : Int) = some true := by
  intro d
  induction d with
  | zero =>
    intro i k hd hi hk
    obtain ⟨k, rfl⟩ : ∃ m, k = m + 1 := ⟨k - 1, by omega⟩
    simp only [partitaref18_Same.l0]
    rw [if_neg (by omega)]
  | succ d ih =>
    intro i k hd hi hk
    obtain ⟨k, rfl⟩ : ∃ m, k = m + 1 := ⟨k - 1, by omega⟩
    simp only [partitaref18_Same.l0]
    rw [if_pos (show (i : Int) < (l.length : Int) by omega), if_pos (by omega), if_pos (show (i : Int) < (l.length : Int) by omega), if_neg (by simp), w64 (by omega)]
    exact ih (i + 1) k (by omega) (by omega) (by omega)
theorem same_f (l : List S35) (hn : l.length < 4398046511104) (k : Nat) (hk : l.length + 1 ≤ k) : partitaref18_Same.f k l l = some true := by
  unfold partitaref18_Same.f
  rw [if_pos rfl]
  exact same_l0 l hn l.length 0 k (by omega) (by omega) hk
/-- The text of right pieces has these pieces. -/
theorem stop_txt (k : Int) (hk : k ≠ 5) : ∀ l : List S35, l.all rgtX = true → stopL (txt k l)
  | [], _ => fun c r h => by cases h
  | y :: r, ha => by
    intro c t h
    rw [List.all_cons, Bool.and_eq_true] at ha
    unfold txt sepL at h
    by_cases h5 : y.f0 = 5
    · rw [if_neg (fun e => e.1 h5)] at h
      have hr : rgtL 5 y.f1.data.toList = true := by rw [← h5]; exact ha.1
      have hl : y.f1.data.toList = [10] := by
        unfold rgtL at hr
        rw [if_neg (by decide), if_neg (by decide), if_neg (by decide), if_neg (by decide), if_pos rfl] at hr
        exact beq_iff_eq.1 hr
      have hb : bodL y.f0 y.f1 = [10] := by
        unfold bodL; rw [if_neg (by omega), hl]
      rw [hb] at h
      injection h with h1 _
      rw [← h1]; decide
    · rw [if_pos ⟨h5, hk⟩] at h
      injection h with h1 _
      rw [← h1]; decide
theorem x_eta (x : S35) (a : Int) : (⟨x.f0, ⟨x.f1.data.toList.toArray⟩, a⟩ : S35) = ⟨x.f0, x.f1, a⟩ := rfl
theorem tk_txt : ∀ (l : List S35) (p : Int) (a : Nat), l.all rgtX = true → ∃ m, tkL (txt p l) a = (m, none) ∧ bare m = bare l
  | [], p, a, _ => ⟨[], tkL_nil a, rfl⟩
  | x :: r, p, a, h => by
    have h' := h
    rw [List.all_cons, Bool.and_eq_true] at h
    have hst : x.f0 = 1 ∨ x.f0 = 2 ∨ x.f0 = 4 → stopL (txt x.f0 r) := fun hk => stop_txt x.f0 (by omega) r h.2
    have main : ∀ b : Nat, ∃ m, tkL (bodL x.f0 x.f1 ++ txt x.f0 r) b = (m, none) ∧ bare m = bare (x :: r) := by
      intro b
      have ht := tk_app x.f0 x.f1.data.toList (txt x.f0 r) b h.1 hst
      obtain ⟨m, hm, hb⟩ := tk_txt r x.f0 (b + (bodL x.f0 x.f1).length) h.2
      have ht2 : tkL (bodL x.f0 x.f1 ++ txt x.f0 r) b = (⟨x.f0, x.f1, b⟩ :: (tkL (txt x.f0 r) (b + (bodL x.f0 x.f1).length)).1, (tkL (txt x.f0 r) (b + (bodL x.f0 x.f1).length)).2) := ht
      rw [hm] at ht2
      exact ⟨_, ht2, by unfold bare at hb ⊢; simp only [List.map_cons, hb]⟩
    unfold txt sepL
    split
    · obtain ⟨m, hm, hb⟩ := main (a + 1)
      refine ⟨m, ?_, hb⟩
      rw [List.append_assoc, List.singleton_append, tkL_blk 32 _ a (by decide)]
      exact hm
    · exact main a
theorem len_bare {l m : List S35} (h : bare m = bare l) : m.length = l.length := by
  have := congrArg List.length h
  unfold bare at this
  simpa using this
end Go.Proofs.YtllccnijipgncaaDoor.Q
