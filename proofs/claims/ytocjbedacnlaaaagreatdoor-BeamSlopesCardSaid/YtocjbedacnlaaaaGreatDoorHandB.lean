/- Hand texts, laid as one (merge23.py). No conditions. -/
import Derived.Test.YtocjbedacnlaaaaGreatDoorQ5
import Derived.Test.YtocjbedacnlaaaaGreatDoorQ6
import Derived.Test.YtocjbedacnlaaaaGreatDoorHandA
import Derived.Deep.RegionHeld3
import Derived.Outline
/- Plain: which values, marks, pitches and events are right. No conditions. -/
namespace Go.Proofs.YtocjbedacnlaaaaGreatDoor.Q
open Go.RowKit Go.Proofs.YtocjbedacnlaaaaGreatDoorW.PrintWords Go.Proofs.YtocjbedacnlaaaaGreatDoorW.PrintMore
set_option linter.unusedVariables false
set_option linter.unusedSimpArgs false
theorem wrap_id {n : Int} (h : -9223372036854775808 ≤ n ∧ n ≤ 9223372036854775807) : wrap64 n = n := by unfold wrap64; omega
theorem within_f (a lo hi : Int) : value_within.f a lo hi = some (decide (lo ≤ a ∧ a ≤ hi)) := by
  unfold value_within.f
  by_cases h : a ≥ lo
  · rw [if_pos h]
    congr 1
    rw [decide_eq_decide]; omega
  · rw [if_neg h]
    rw [decide_eq_false (by omega)]
/-- Is a value right? -/
def valB (b d n m : Int) : Bool := decide (0 ≤ b ∧ b ≤ 6) && (decide (0 ≤ d ∧ d ≤ 2) && (decide (n = 0 ∧ m = 0) || decide (2 ≤ n ∧ n ≤ 15 ∧ 1 ≤ m ∧ m ≤ 15 ∧ n ≠ m)))
theorem valRight_f (k : Nat) (b d n m : Int) : value_Right.f (k + 1) b d n m = some (valB b d n m) := by
  unfold value_Right.f
  have key : ∀ x : Bool, value_Right.j0 (k + 1) x b d n m = some (decide (0 ≤ b ∧ b ≤ 6) && (decide (0 ≤ d ∧ d ≤ 2) && (x || decide (2 ≤ n ∧ n ≤ 15 ∧ 1 ≤ m ∧ m ≤ 15 ∧ n ≠ m)))) := by
    intro x
    unfold value_Right.j0
    simp only [within_f, Option.bind_some]
    by_cases h1 : 2 ≤ n ∧ n ≤ 15 <;> by_cases h2 : 1 ≤ m ∧ m ≤ 15 <;> by_cases h3 : 0 ≤ b ∧ b ≤ 6 <;> by_cases h4 : 0 ≤ d ∧ d ≤ 2 <;> cases x <;> by_cases h5 : n = m <;> simp [h1, h2, h3, h4, h5] <;> omega
  by_cases h0 : n = 0
  · rw [if_pos h0, key]
    unfold valB
    have : (m == 0) = decide (n = 0 ∧ m = 0) := by rw [Bool.eq_iff_iff]; simp [h0]
    rw [this]
  · rw [if_neg h0, key]
    unfold valB
    rw [show decide (n = 0 ∧ m = 0) = false from decide_eq_false (by omega)]
def okM (m : Int) : Bool := decide (1 ≤ m ∧ m ≤ 4)
/-- Are marks right? -/
def mrkB (l : List Int) : Bool := l.all okM && risesF gtB l
theorem rd_get {l : List Int} {i : Nat} (h : i < l.length) : rd l (i : Int) = l[i] := by simp [rd, List.getD, h]
theorem marked_l (l0 l : List Int) (h : l.length ≤ 9223372036854775807) : ∀ (r i j : Nat), i + r = l.length → event_marked.l0 (r + 1 + j) l0 l (l.length : Int) (i : Int) = some ((l.drop i).all okM && risesF gtB l0)
  | 0, i, j, hi => by
    rw [show 0 + 1 + j = j + 1 by omega]
    unfold event_marked.l0
    rw [if_neg (by omega), List.drop_of_length_le (by omega)]
    simp [event_marked_1.f]
  | r + 1, i, j, hi => by
    have ih := marked_l l0 l h r (i + 1) j (by omega)
    rw [show r + 1 + 1 + j = (r + 1 + j) + 1 by omega]
    unfold event_marked.l0
    have hlt : i < l.length := by omega
    rw [if_pos (by omega), if_pos (by omega), if_pos (by omega), rd_get hlt, List.drop_eq_getElem_cons hlt, List.all_cons, wrap_id ⟨by omega, by omega⟩, show ((i : Int) + 1) = ((i + 1 : Nat) : Int) by omega, ih]
    by_cases h1 : l[i] < 1
    · rw [if_pos h1, show okM l[i] = false from decide_eq_false (by omega)]; rfl
    · rw [if_neg h1]
      by_cases h2 : l[i] > 4
      · rw [if_pos h2, show okM l[i] = false from decide_eq_false (by omega)]; rfl
      · rw [if_neg h2, show okM l[i] = true from decide_eq_true (by omega), Bool.true_and]
theorem marked_f (k : Nat) (l : List Int) (h : l.length ≤ 9223372036854775807) (hk : l.length + 1 ≤ k) : event_marked.f k l = some (mrkB l) := by
  obtain ⟨j, rfl⟩ : ∃ j, k = l.length + 1 + j := ⟨k - (l.length + 1), by omega⟩
  have := marked_l l l h l.length 0 j (by omega)
  unfold event_marked.f mrkB
  exact this
/-- How high a pitch sounds; where it stands; is it right? -/
def numP (x : S43) : Int := 12 * (x.f2 + 1) + halfL x.f0 + x.f1
def linP (x : S43) : Int := 7 * x.f2 + x.f0
def pitB (x : S43) : Bool := decide (0 ≤ x.f0 ∧ x.f0 ≤ 6 ∧ -1 ≤ x.f2 ∧ x.f2 ≤ 9 ∧ -2 ≤ x.f1 ∧ x.f1 ≤ 2) && decide (0 ≤ numP x ∧ numP x ≤ 127)
theorem number_f {x : S43} (h : 0 ≤ x.f0 ∧ x.f0 ≤ 6 ∧ -1 ≤ x.f2 ∧ x.f2 ≤ 9 ∧ -2 ≤ x.f1 ∧ x.f1 ≤ 2) : pitch_number.f x.f0 x.f1 x.f2 = some (numP x) := by
  unfold pitch_number.f numP
  rw [if_pos (by omega)]
theorem pitRight_f (x : S43) : pitch_Right.f x.f0 x.f1 x.f2 = some (pitB x) := by
  unfold pitch_Right.f
  by_cases h : 0 ≤ x.f0 ∧ x.f0 ≤ 6 ∧ -1 ≤ x.f2 ∧ x.f2 ≤ 9 ∧ -2 ≤ x.f1 ∧ x.f1 ≤ 2
  · rw [if_neg (by omega), if_neg (by omega), if_neg (by omega), if_neg (by omega), if_neg (by omega), if_neg (by omega), number_f h]
    unfold pitB
    rw [decide_eq_true h, Bool.true_and, Option.bind_some]
    by_cases h2 : numP x ≥ 0
    · rw [if_pos h2]; congr 1; rw [decide_eq_decide]; omega
    · rw [if_neg h2]; congr 1; symm; rw [decide_eq_false_iff_not]; omega
  · unfold pitB
    rw [decide_eq_false h, Bool.false_and]
    repeat' split
    all_goals first | rfl | (exfalso; omega)
def cmpN (a b : Int) : Int := if a < b then -1 else if a > b then 1 else 0
theorem cmpC_f (a b : Int) : cmp_Compare_int.f a b = some (cmpN a b) := by
  unfold cmp_Compare_int.f cmp_isNaN_int.f cmpN
  simp only [bne_self_eq_false, Option.bind_some, Bool.false_eq_true, if_false]
  split
  · rfl
  · split <;> rfl
theorem or_f (k : Nat) (a b : Int) : cmp_Or_int.f (k + 3) [a, b] = some (if a = 0 then b else a) := by
  unfold cmp_Or_int.f
  unfold cmp_Or_int.l0
  rw [if_pos (by simp), if_pos (by simp), if_pos (by simp)]
  by_cases h : a = 0
  · rw [if_pos (by simp [rd, h]), if_pos h]
    rw [show wrap64 (0 + 1) = 1 by rw [wrap_id ⟨by omega, by omega⟩]; rfl]
    unfold cmp_Or_int.l0
    rw [if_pos (by simp), if_pos (by simp), if_pos (by simp)]
    by_cases h2 : b = 0
    · rw [if_pos (by simp [rd, h2]), show wrap64 (1 + 1) = 2 by rw [wrap_id ⟨by omega, by omega⟩]; rfl]
      unfold cmp_Or_int.l0
      rw [if_neg (by simp), h2]
    · rw [if_neg (by simp [rd, h2])]; rfl
  · rw [if_neg (by simp [rd, h]), if_neg h]; rfl
/-- Which of two right pitches is the higher one. -/
def cmpP (x y : S43) : Int := if cmpN (numP x) (numP y) = 0 then cmpN (linP x) (linP y) else cmpN (numP x) (numP y)
theorem pitB_bd {x : S43} (h : pitB x = true) : 0 ≤ x.f0 ∧ x.f0 ≤ 6 ∧ -1 ≤ x.f2 ∧ x.f2 ≤ 9 ∧ -2 ≤ x.f1 ∧ x.f1 ≤ 2 := by
  unfold pitB at h
  rw [Bool.and_eq_true, decide_eq_true_eq] at h
  exact h.1
theorem line_f {x : S43} (h : pitB x = true) : pitch_line.f x.f0 x.f1 x.f2 = some (linP x) := by
  have := pitB_bd h
  unfold pitch_line.f linP
  rw [wrap_id (n := 7 * x.f2) ⟨by omega, by omega⟩, wrap_id ⟨by omega, by omega⟩]
theorem compare_f (k : Nat) {x y : S43} (hx : pitB x = true) (hy : pitB y = true) : pitch_Compare.f (k + 4) x.f0 x.f1 x.f2 y.f0 y.f1 y.f2 = some (cmpP x y) := by
  unfold pitch_Compare.f
  rw [pitRight_f, pitRight_f, hx, hy]
  simp only [Option.bind_some, if_true, Bool.not_true]
  unfold pitch_Compare.j0
  simp only [Bool.false_eq_true, if_false, number_f (pitB_bd hx), number_f (pitB_bd hy), Option.bind_some, cmpC_f, line_f hx, line_f hy, or_f]
  rfl
/-- Is a right pitch above another one? -/
def gtQ (x y : S43) : Bool := decide (0 < cmpP x y)
theorem right2_f (k : Nat) (l : List S43) (h : l.all pitB = true) : event_Right_2.f (k + 4) l = some (risesF gtQ l) := by
  rw [List.all_eq_true] at h
  have hc : ∀ j (hj : j + 1 < l.length), pitch_Compare.f (k + 4) l[j + 1].f0 l[j + 1].f1 l[j + 1].f2 l[j].f0 l[j].f1 l[j].f2 = some (cmpP l[j + 1] l[j]) := fun j hj => compare_f k (h _ (List.getElem_mem _)) (h _ (List.getElem_mem _))
  unfold event_Right_2.f
  rw [if_pos (risesF_iff.2 fun j hj => by unfold cmpOk; rw [hc j hj]; rfl)]
  congr 1
  exact risesF_congr fun j hj => by unfold gtP gtQ; rw [hc j hj]; rfl
/-- Has a list a pitch? -/
def hasP (l : List S43) (p : S43) : Bool := l.any fun q => p.f0 == q.f0 && (p.f1 == q.f1 && (p.f2 == q.f2))
theorem index_l (l : List S43) (p : S43) (h : l.length ≤ 9223372036854775807) : ∀ (r i j : Nat), i + r = l.length → ∃ n : Int, api_Pitch_103.l0 (r + 1 + j) l (l.length : Int) (i : Int) p.f0 p.f1 p.f2 = some n ∧ decide (n ≥ 0) = hasP (l.drop i) p
  | 0, i, j, hi => by
    rw [show 0 + 1 + j = j + 1 by omega]
    unfold api_Pitch_103.l0
    rw [if_neg (by omega), List.drop_of_length_le (by omega)]
    exact ⟨-1, rfl, rfl⟩
  | r + 1, i, j, hi => by
    obtain ⟨n, e1, e2⟩ := index_l l p h r (i + 1) j (by omega)
    rw [show r + 1 + 1 + j = (r + 1 + j) + 1 by omega]
    unfold api_Pitch_103.l0
    have hlt : i < l.length := by omega
    have hg : rd_T43 l (i : Int) = l[i] := by simp [rd_T43, List.getD, hlt]
    rw [if_pos (by omega), if_pos (by omega), if_pos (by omega), hg, wrap_id ⟨by omega, by omega⟩, show ((i : Int) + 1) = ((i + 1 : Nat) : Int) by omega, e1]
    rw [List.drop_eq_getElem_cons hlt]
    unfold hasP at e2 ⊢
    rw [List.any_cons]
    split
    · rename_i hb
      exact ⟨i, rfl, by rw [hb, Bool.true_or]; simp⟩
    · rename_i hb
      exact ⟨n, rfl, by rw [Bool.eq_false_iff.2 hb, Bool.false_or]; exact e2⟩
theorem contains_f (k : Nat) (l : List S43) (p : S43) (h : l.length ≤ 9223372036854775807) (hk : l.length + 1 ≤ k) : api_Pitch_82.f k l p.f0 p.f1 p.f2 = some (hasP l p) := by
  obtain ⟨j, rfl⟩ : ∃ j, k = l.length + 1 + j := ⟨k - (l.length + 1), by omega⟩
  obtain ⟨n, e1, e2⟩ := index_l l p h l.length 0 j (by omega)
  unfold api_Pitch_82.f api_Pitch_103.f
  have e1' : api_Pitch_103.l0 (l.length + 1 + j) l (l.length : Int) 0 p.f0 p.f1 p.f2 = some n := e1
  rw [e1', Option.bind_some, e2]
  rfl
/-- Is an event right? -/
def rightE (x : S41) : Bool := valB x.f3.f0 x.f3.f1 x.f3.f2 x.f3.f3 && (plnB x.f5 && (mrkB x.f4 && ((x.f2.length == x.f1.length) &&
  (if x.f0 = 0 then x.f1.isEmpty && (x.f5.toList.isEmpty && !x.f4.any unferB) else decide (x.f0 = 1) && (decide (1 ≤ x.f1.length ∧ x.f1.length ≤ 8) && (x.f1.all pitB && risesF gtQ x.f1))))))
theorem right_l (l0 : List S43) (l2 : List Bool) (a0 a3 a4 a5 a6 : Int) (l7 : List Int) (a8 : ByteArray) (l : List S43) (h : l.length ≤ 8) (hl0 : l0 = l) : ∀ (r i j : Nat), i + r = l.length → (l.take i).all pitB = true →
    event_Right.l0 (r + 5 + j) l (l.length : Int) (i : Int) a0 l0 l2 a3 a4 a5 a6 l7 a8 = some (l.all pitB && risesF gtQ l)
  | 0, i, j, hi, hp => by
    rw [show 0 + 5 + j = (j + 4) + 1 by omega]
    unfold event_Right.l0
    obtain rfl : i = l.length := by omega
    rw [List.take_length] at hp
    rw [if_neg (by omega), hl0, right2_f j l hp, hp]
    rfl
  | r + 1, i, j, hi, hp => by
    have ih := right_l l0 l2 a0 a3 a4 a5 a6 l7 a8 l h hl0 r (i + 1) j (by omega)
    rw [show r + 1 + 5 + j = (r + 5 + j) + 1 by omega]
    unfold event_Right.l0
    have hlt : i < l.length := by omega
    have hg : rd_T43 l (i : Int) = l[i] := by simp [rd_T43, List.getD, hlt]
    rw [if_pos (by omega), if_pos (by omega), if_pos (by omega), hg, wrap_id ⟨by omega, by omega⟩, show ((i : Int) + 1) = ((i + 1 : Nat) : Int) by omega, pitRight_f, Option.bind_some]
    cases hq : pitB l[i] with
    | true =>
      rw [if_pos rfl]
      refine ih ?_
      rw [List.take_add_one, List.getElem?_eq_getElem hlt, List.all_append, hp]
      simp [hq]
    | false =>
      rw [if_neg (by simp)]
      rw [show l.all pitB = false from by rw [← Bool.not_eq_true, List.all_eq_true]; intro hh; have := hh _ (List.getElem_mem hlt); rw [hq] at this; cases this]
      rfl
theorem evRight_f (k : Nat) (x : S41) (h : x.f4.length ≤ 9223372036854775807) (hk : x.f4.length + 20 ≤ k) :
    event_Right.f k x.f0 x.f1 x.f2 x.f3.f0 x.f3.f1 x.f3.f2 x.f3.f3 x.f4 x.f5 = some (rightE x) := by
  unfold event_Right.f
  obtain ⟨j, rfl⟩ : ∃ j, k = j + 16 := ⟨k - 16, by omega⟩
  have j1 : ∀ (m : Nat) b, event_Right.j0 (m + 2) true x.f0 x.f1 x.f2 x.f3.f0 x.f3.f1 x.f3.f2 x.f3.f3 x.f4 b = some false := fun m b => by unfold event_Right.j0; dsimp only; rw [if_pos rfl]
  rw [show j + 16 = (j + 15) + 1 by omega, valRight_f, show event_plain.f x.f5 = some (plnB x.f5) from rfl, marked_f _ _ h (by omega)]
  simp only [Option.bind_some]
  unfold rightE
  cases valB x.f3.f0 x.f3.f1 x.f3.f2 x.f3.f3 with
  | false => rw [if_neg (by simp), show j + 15 + 1 = (j + 14) + 2 by omega, j1]; rfl
  | true =>
    rw [if_pos rfl, Bool.true_and]
    cases plnB x.f5 with
    | false => rw [if_neg (by simp), show j + 15 + 1 = (j + 14) + 2 by omega, j1]; rfl
    | true =>
      rw [if_pos rfl, Bool.true_and]
      cases mrkB x.f4 with
      | false => rw [if_neg (by simp), show j + 15 + 1 = (j + 14) + 2 by omega, j1]; rfl
      | true =>
        rw [if_pos rfl, Bool.true_and]
        unfold event_Right.j0
        dsimp only
        by_cases hl : x.f2.length = x.f1.length
        · rw [show ((x.f2.length : Int) != (x.f1.length : Int)) = false by rw [hl]; simp, show (x.f2.length == x.f1.length) = true by simp [hl], Bool.true_and, if_neg (by simp)]
          by_cases h0 : x.f0 = 0
          · rw [if_pos h0, if_pos h0]
            by_cases h1 : x.f1 = []
            · rw [h1, if_pos (by simp), List.isEmpty_nil, Bool.true_and]
              by_cases h2 : x.f5.toList = []
              · rw [if_pos h2, h2, List.isEmpty_nil, Bool.true_and]; rfl
              · rw [if_neg h2, show x.f5.toList.isEmpty = false by simp [h2]]; rfl
            · rw [if_neg (by simp [h1]), show x.f1.isEmpty = false by simp [h1]]; rfl
          · rw [if_neg h0, if_neg h0]
            have j2 : ∀ m, event_Right.j1 (m + 1) true x.f0 x.f1 x.f2 x.f3.f0 x.f3.f1 x.f3.f2 x.f3.f3 x.f4 x.f5 = some false := fun m => by unfold event_Right.j1; dsimp only; rw [if_pos rfl]
            by_cases h1 : x.f0 = 1
            · rw [if_pos h1, decide_eq_true h1, Bool.true_and]
              by_cases h2 : (x.f1.length : Int) < 1
              · rw [if_pos h2, show j + 15 = (j + 14) + 1 by omega, j2, show decide (1 ≤ x.f1.length ∧ x.f1.length ≤ 8) = false by rw [decide_eq_false_iff_not]; omega]; rfl
              · rw [if_neg h2]
                by_cases h3 : (x.f1.length : Int) > 8
                · rw [decide_eq_true h3, show j + 15 = (j + 14) + 1 by omega, j2, show decide (1 ≤ x.f1.length ∧ x.f1.length ≤ 8) = false by rw [decide_eq_false_iff_not]; omega]; rfl
                · rw [decide_eq_false h3, show decide (1 ≤ x.f1.length ∧ x.f1.length ≤ 8) = true by rw [decide_eq_true_iff]; omega, Bool.true_and]
                  rw [show j + 15 = (j + 14) + 1 by omega]
                  unfold event_Right.j1
                  dsimp only
                  rw [if_neg (by simp), show j + 14 = x.f1.length + 5 + (j + 14 - (x.f1.length + 5)) by omega]
                  exact right_l x.f1 x.f2 _ _ _ _ _ _ _ x.f1 (by omega) rfl x.f1.length 0 _ (by omega) rfl
            · rw [if_neg h1, show j + 15 = (j + 14) + 1 by omega, j2, decide_eq_false h1]; rfl
        · rw [show ((x.f2.length : Int) != (x.f1.length : Int)) = true by rw [bne_iff_ne]; omega, show (x.f2.length == x.f1.length) = false by simp [hl], if_pos rfl]; rfl
end Go.Proofs.YtocjbedacnlaaaaGreatDoor.Q
/- Whether a voice may be: the walk (a range over a map of pitches within a loop). No conditions but for the listed variables. -/
namespace Go.Proofs.YtocjbedacnlaaaaGreatDoor.Q
open Go.RowKit Go.Shelf Go.Maps Go.Proofs.YtocjbedacnlaaaaGreatDoorW.PrintWords
set_option linter.unusedVariables false
set_option linter.unusedSimpArgs false
abbrev argE (x : S41) (A1 : Option Addr) (c1 : Nat) (A2 : Option Addr) (c2 : Nat) (A7 : Option Addr) (c7 : Nat) : Value := .agg #[.int .i64 x.f0, .slice A1 x.f1.length c1, .slice A2 x.f2.length c2, .int .i64 x.f3.f0, .int .i64 x.f3.f1, .int .i64 x.f3.f2, .int .i64 x.f3.f3, .slice A7 x.f4.length c7, .string x.f5]
theorem rightE_calls (x : S41) {A1 A2 A7 : Option Addr} {c1 c2 c7 : Nat} (w : World) (l1 : x.f1.length ≤ c1) (g1 : k43.C w A1 x.f1.length x.f1) (l2 : x.f2.length ≤ c2) (g2 : Kd.bool.C w A2 x.f2.length x.f2) (l7 : x.f4.length ≤ c7) (g7 : (Kd.int .i64).C w A7 x.f4.length x.f4) (hS : SentsE w) :
    Calls Tryz.prog 80 #[argE x A1 c1 A2 c2 A7 c7] w fun e w' => e = .returned (.bool (rightE x)) ∧ Below w.heap.size w w' :=
  event_Right.calls (x.f4.length + 20) _ _ _ _ _ _ _ _ _ _ _ _ _ _ _ _ w g1 l1 g2 l2 g7 l7 (evRight_f _ x g7.2.1 (Nat.le_refl _)) ⟨hS⟩
set_option maxHeartbeats 2000000 in
set_option maxRecDepth 100000 in
theorem check1_w (x : S41) {A1 A2 A7 : Option Addr} {c1 c2 c7 : Nat} (w : World) (l1 : x.f1.length ≤ c1) (g1 : k43.C w A1 x.f1.length x.f1) (l2 : x.f2.length ≤ c2) (g2 : Kd.bool.C w A2 x.f2.length x.f2) (l7 : x.f4.length ≤ c7) (g7 : (Kd.int .i64).C w A7 x.f4.length x.f4) (hS : SentsE w) :
    Calls Tryz.prog 79 #[argE x A1 c1 A2 c2 A7 c7] w fun e w' => e = .returned (.bool (!rightE x)) ∧ Below w.heap.size w w' := by
  have hu41 := Tryz.underlying41
  have hB := below_alloc (Below.refl w.heap.size w) (.cells #[.int .i64 x.f0, .slice A1 x.f1.length c1, .slice A2 x.f2.length c2, .int .i64 x.f3.f0, .int .i64 x.f3.f1, .int .i64 x.f3.f2, .int .i64 x.f3.f3, .slice A7 x.f4.length c7, .string x.f5] 41)
  have HB := Aside0.mk hB
  have HC := Aside0.mk (rightE_calls x (w.alloc (.cells #[.int .i64 x.f0, .slice A1 x.f1.length c1, .slice A2 x.f2.length c2, .int .i64 x.f3.f0, .int .i64 x.f3.f1, .int .i64 x.f3.f2, .int .i64 x.f3.f3, .slice A7 x.f4.length c7, .string x.f5] 41)) l1 (Kd.C_below g1 hB) l2 (Kd.C_below g2 hB) l7 (Kd.C_below g7 hB) (hS.below hB))
  generalize rightE x = b at HC ⊢
  clear g1 g2 g7 hS hB
  go_enter Tryz.func79, Tryz.ntmps79
  go_wp2_with (first | (go_at_call 80; ((with_reducible refine HC.out.mono ?_); rintro e w1 ⟨rfl, hb1⟩; have HB1 := Aside0.mk (below_step HB.out hb1))))
  go_ret
  exact ⟨rfl, HB1.out⟩
theorem check1_any (A : Option Addr) (c : Nat) (l : List S41) (w : World) (hr : Kd.C k41 w A l.length l) (hS : SentsE w) :
    Calls Tryz.prog 78 #[.slice A l.length c, .func (.func 79) #[] #[]] w fun e w' => e = .returned (.int .i64 (idxF (fun e => !rightE e) l)) ∧ Below w.heap.size w w' := by
  refine idxE_calls 79 (enters_of Tryz.func79 (by kernel_rfl) rfl) (fun e => !rightE e) A c l w (fun W x cs hx hK hb => ?_) hr
  obtain ⟨A1, c1, A2, c2, A7, c7, rfl, l1, g1, l2, g2, l7, g7⟩ := k41_open hK
  exact check1_w x W l1 g1 l2 g2 l7 g7 (hS.below hb)
theorem idxF_or {α : Type} (p : α → Bool) (l : List α) : idxF p l = -1 ∨ (0 ≤ idxF p l ∧ idxF p l < l.length) := by
  unfold idxF
  cases h : l.findIdx? p with
  | none => exact .inl rfl
  | some i =>
    rw [List.findIdx?_eq_some_iff_getElem] at h
    obtain ⟨h1, _, _⟩ := h
    exact .inr ⟨by simp, by simp; omega⟩
theorem idxF_neg {α : Type} {p : α → Bool} {l : List α} (h : ¬ 0 ≤ idxF p l) : ∀ x ∈ l, p x = false := by
  have := idxF_any p l
  rw [decide_eq_false h] at this
  intro x hx
  have h2 := List.any_eq_false.1 this.symm x hx
  simpa using h2
theorem rightE_pit {x : S41} (h : rightE x = true) : (∀ p ∈ x.f1, pitB p = true) ∧ x.f1.length ≤ 8 := by
  unfold rightE at h
  simp only [Bool.and_eq_true] at h
  obtain ⟨_, _, _, _, h⟩ := h
  split at h
  · simp only [Bool.and_eq_true] at h
    have : x.f1 = [] := by simpa using h.1
    rw [this]; simp
  · simp only [Bool.and_eq_true, decide_eq_true_eq, List.all_eq_true] at h
    exact ⟨h.2.2.1, h.2.1.2⟩
theorem pit_wf {p : S43} (h : pitB p = true) : wfP p := by
  have := pitB_bd h
  refine ⟨?_, ?_, ?_⟩ <;> simp only [Lit.wf, IntKind.min, IntKind.max, IntKind.signed, IntKind.bits, Bool.and_eq_true, decide_eq_true_eq] <;> simp <;> omega
/-- Does an event tie a pitch that the next one lacks? -/
def badT (x y : S41) : Bool := (tiedL x.f1 x.f2).any fun p => !hasP y.f1 p
/-- The first event that ties a pitch that the next one lacks; -1: none. -/
def badI (l : List S41) : Int := idxF (fun j => badT (l.getD j z41) (l.getD (j + 1) z41)) (List.range (l.length - 1))
/-- May a voice be? -/
def checkV (l : List S41) : Int × Int := if 64 < l.length then (64, 70) else if 0 ≤ idxF (fun e => !rightE e) l then (idxF (fun e => !rightE e) l, 60) else if 0 ≤ badI l then (badI l, 71) else (0, 0)
end Go.Proofs.YtocjbedacnlaaaaGreatDoor.Q
/- Whether a voice may be: the walk (a range over a map of pitches within a loop). No conditions but for the listed variables. -/
namespace Go.Proofs.YtocjbedacnlaaaaGreatDoor.Q
open Go.RowKit Go.Shelf Go.Maps Go.Proofs.YtocjbedacnlaaaaGreatDoorW.PrintWords
set_option linter.unusedVariables false
set_option linter.unusedSimpArgs false
set_option maxHeartbeats 2000000 in
set_option maxRecDepth 100000 in
theorem check_long (A0 : Option Addr) (c0 : Nat) (l : List S41) (w : World) (h : 64 < l.length) :
    Calls Tryz.prog 59 #[.agg #[.slice A0 l.length c0]] w fun e w' => e = .returned (.tuple #[.int .i64 (checkV l).1, .int .i64 (checkV l).2]) ∧ Below w.heap.size w w' := by
  have hu32 := Tryz.underlying32
  have HB := Aside0.mk (below_alloc (Below.refl w.heap.size w) (.cells #[.slice A0 l.length c0] 32))
  have hV : checkV l = (64, 70) := by unfold checkV; rw [if_pos h]
  rw [hV]
  have h1 : decide ((64 : Int) < (l.length : Int)) = true := by simp; omega
  have h2 : decide (64 < l.length) = true := by simp; omega
  clear hV h
  go_enter Tryz.func59, Tryz.ntmps59
  go_wp2
  go_ret2
  exact ⟨rfl, HB.out⟩
set_option maxHeartbeats 2000000 in
set_option maxRecDepth 100000 in
theorem check_wrong (A0 : Option Addr) (c0 : Nat) (l : List S41) (w : World) (h : ¬ 64 < l.length) (hi : 0 ≤ idxF (fun e => !rightE e) l) (hr : Kd.C k41 w A0 l.length l) (hS : SentsE w) :
    Calls Tryz.prog 59 #[.agg #[.slice A0 l.length c0]] w fun e w' => e = .returned (.tuple #[.int .i64 (checkV l).1, .int .i64 (checkV l).2]) ∧ Below w.heap.size w w' := by
  have hu32 := Tryz.underlying32
  have hB := below_alloc (Below.refl w.heap.size w) (.cells #[.slice A0 l.length c0] 32)
  have HB := Aside0.mk hB
  have hV : checkV l = (idxF (fun e => !rightE e) l, 60) := by unfold checkV; rw [if_neg h, if_pos hi]
  rw [hV]
  have HC := Aside0.mk (check1_any A0 c0 l (w.alloc (.cells #[.slice A0 l.length c0] 32)) (Kd.C_below hr hB) (hS.below hB))
  generalize idxF (fun e => !rightE e) l = i at HC hi ⊢
  have h1 : decide ((64 : Int) < (l.length : Int)) = false := by simp; omega
  have h2 : decide (64 < l.length) = false := by simp; omega
  have h3 : decide (0 ≤ i) = true := by simp; omega
  clear hV h hr hS hB
  go_enter Tryz.func59, Tryz.ntmps59
  go_wp2_with (first | (go_at_call 78; ((with_reducible refine HC.out.mono ?_); rintro e w1 ⟨rfl, hb1⟩; have HB1 := Aside0.mk (below_step HB.out hb1))))
  go_ret2
  exact ⟨rfl, HB1.out⟩
theorem badI_at {l : List S41} {k : Nat} (hk : k + 1 < l.length) (ht : badT (l.getD k z41) (l.getD (k + 1) z41) = true) (hn : ∀ j, j < k → badT (l.getD j z41) (l.getD (j + 1) z41) = false) : badI l = k := by
  unfold badI
  refine idxF_at (by simp; omega) (by simpa using ht) (fun j hj => by simpa using hn j hj)
theorem badI_no {l : List S41} (hn : ∀ j, j < l.length - 1 → badT (l.getD j z41) (l.getD (j + 1) z41) = false) : badI l = -1 := by
  unfold badI
  refine idxF_no (fun j hj => ?_)
  simp only [List.length_range] at hj
  simpa using hn j hj
theorem ranges_on {w6 W w8 : World} {P : Program} {k : TypeId} {R : Value → Option (DataW Unit × List MemPlace)} {b r n : Nat} {D : DataW Unit} {left : Lit → Bool} {cnt : Nat} (h : w6.ranges P k R b r n D left cnt) (o : Obj) (hb : Below W.heap.size W w8) (e : W.heap = (w6.alloc o).heap) : w8.ranges P k R b r n D left cnt := by
  have h1 := h.alloc o
  have h2 : W.ranges P k R b r n D left cnt := by
    unfold World.ranges at h1 ⊢
    rw [e]; exact h1
  exact h2.kept (grown_of_below hb none) (by simp) (by simp)
theorem blk_on {w6 W w8 : World} {g : Nat} {cs : Array Value} {t : TypeId} {fr : Nat × Nat} (h : w6.heap[g]? = some (.cells cs t fr)) (o : Obj) (hb : Below W.heap.size W w8) (e : W.heap = (w6.alloc o).heap) : w8.heap[g]? = some (.cells cs t fr) := by
  have h1 := blk_alloc h o
  rw [← e] at h1
  exact blk_below h1 hb
set_option maxHeartbeats 4000000 in
set_option maxRecDepth 100000 in
theorem check_ties (A0 : Option Addr) (c0 : Nat) (l : List S41) (w : World) (h : ¬ 64 < l.length) (hi : ¬ 0 ≤ idxF (fun e => !rightE e) l) (hr : Kd.C k41 w A0 l.length l) (hS : SentsE w) :
    Calls Tryz.prog 59 #[.agg #[.slice A0 l.length c0]] w fun e w' => e = .returned (.tuple #[.int .i64 (checkV l).1, .int .i64 (checkV l).2]) ∧ Below w.heap.size w w' := by
  have hu32 := Tryz.underlying32
  have hu41 := Tryz.underlying41
  have hu43 := Tryz.underlying43
  have hB := below_alloc (Below.refl w.heap.size w) (.cells #[.slice A0 l.length c0] 32)
  have HB := Aside0.mk hB
  have HM := Aside0.mk (blk_new w (.cells #[.slice A0 l.length c0] 32))
  have hV : checkV l = (if 0 ≤ badI l then (badI l, 71) else (0, 0)) := by unfold checkV; rw [if_neg h, if_neg hi]
  have HV := Aside0.mk hV
  have HC := Aside0.mk (check1_any A0 c0 l (w.alloc (.cells #[.slice A0 l.length c0] 32)) (Kd.C_below hr hB) (hS.below hB))
  have HE := Aside0.mk (idxF_neg hi)
  have hm1 : idxF (fun e => !rightE e) l = -1 := by have := idxF_or (fun e => !rightE e) l; omega
  rw [hm1] at HC
  have HR := Aside0.mk hr
  have h1 : decide ((64 : Int) < (l.length : Int)) = false := by simp; omega
  have h2 : decide (64 < l.length) = false := by simp; omega
  have hl64 : l.length ≤ 64 := by omega
  clear hV h hr hS hB hi hm1
  go_enter Tryz.func59, Tryz.ntmps59
  go_wp2_with (first | (go_at_call 78; ((with_reducible refine HC.out.mono ?_); rintro e w1 ⟨rfl, hb1⟩; have HB1 := Aside0.mk (below_step HB.out hb1); have HM1 := Aside0.mk (blk_below HM.out hb1); have hz1 := hb1.size; simp only [World.size_alloc] at hz1; clear hb1)))
  go_loopw [5] (fun i wr => ∃ k : Nat, k ≤ l.length - 1 ∧ i = .int .i64 k ∧ Aside0 (∀ j, j < k → badT (l.getD j z41) (l.getD (j + 1) z41) = false) ∧ Aside0 (Below w.heap.size w wr) ∧ Aside0 (wr.heap[w.heap.size]? = some (.cells #[.slice A0 l.length c0] 32 (0, 0))) ∧ w.heap.size < wr.heap.size) (fun i _ => l.length - 1 - (intOf i).toNat)
  case atStart => exact ⟨0, Nat.zero_le _, rfl, ⟨fun j hj => absurd hj (Nat.not_lt_zero _)⟩, HB1, HM1, by omega⟩
  case round =>
    obtain ⟨k, hk, rfl, HN, HB2, HM2, hz2⟩ := hrel
    clear HB1 HM1 hz1
    have m0 : wr.cell? ⟨w.heap.size, 0, none⟩ = some (.slice A0 l.length c0) := (blk_cell HM2.out 0).trans rfl
    obtain ⟨k1, hk1⟩ : ∃ k1 : Nat, k1 = k + 1 := ⟨_, rfl⟩
    have w2 : IntKind.i64.wrap ((k : Int) + 1) = (k1 : Int) := by rw [IntWalk.i64_in _ (by omega)]; omega
    have HK1 := Aside0.mk hk1
    by_cases hlt : k1 < l.length
    · obtain ⟨wo, rfl⟩ : ∃ wo : World, wo = wr := ⟨_, rfl⟩
      have hd1 : decide (k1 < l.length) = true := by simpa using hlt
      have hlk : k < l.length := by omega
      obtain ⟨ad, A1, e1, A2, e2, A7, e7, rfl, hx0, hx1, hx2, hx3, hx4, hx5, hx6, hx7, hx8, l1, g1, l2, g2, l7, g7⟩ := at_T41 (Kd.C_below HR.out HB2.out) (k : Int) (by omega) (by omega)
      rw [Int.toNat_natCast] at hx0 hx1 hx2 hx3 hx4 hx5 hx6 hx7 hx8
      have hgx : rd_T41 l (k : Int) = l.getD k z41 := by simp [rd_T41]
      rw [hgx] at hx0 hx1 hx2 hx3 hx4 hx5 hx6 hx7 hx8 l1 g1 l2 g2 l7 g7
      have hright : rightE (l.getD k z41) = true := by
        have := HE.out (l.getD k z41) (by simp [List.getD, hlk])
        simpa using this
      have hpit := rightE_pit hright
      generalize hX : l.getD k z41 = x at hx0 hx1 hx2 hx3 hx4 hx5 hx6 hx7 hx8 l1 g1 l2 g2 l7 g7 hpit
      have HX := Aside0.mk hX
      have HT := Aside0.mk (tied_calls x.f0 x.f3.f0 x.f3.f1 x.f3.f2 x.f3.f3 A1 A2 A7 e1 e2 e7 x.f4.length x.f1 x.f2 x.f5 wo g1 g2 (fun p hp => pit_wf (hpit.1 p hp)) (by omega))
      have HW := Aside0.mk (fun p (hp : p ∈ tiedL x.f1 x.f2) => pit_wf (hpit.1 p (tiedL_mem hp)))
      have hlk1 : (k1 : Int) < (l.length : Int) := by omega
      clear hgx hright hpit hX l1 g1 l2 g2 l7 g7 hk1
      go_wp2_with (first
        | (go_at_call 81; ((with_reducible refine HT.out.mono ?_); rintro e w3 ⟨b, rfl, hb0, hown, hb3⟩; have HO3 := Aside0.mk hown; have HB3 := Aside0.mk (HB2.out.trans (hb3.mono HB2.out.size)); have HM3 := Aside0.mk (blk_below HM2.out hb3); have hz3 := hb3.size; clear hown hb3))
        | (at_range; refine wpList_range_own _ rfl _ 118 rfl 43 4 keyed43 Tryz.underlying118 RB b _ _ rfl HO3.out ?_; intro w4 hrg4 hg4 hs4; have HR4 := Aside0.mk hrg4; have HG4 := Aside0.mk hg4; have HS4 := Aside0.mk hs4; clear hrg4 hg4 hs4)
        | go_in)
      go_frame
      have hz4 := HS4.out
      have HB4 := Aside0.mk (pw_below_grown HB3.out none (by omega) HG4.out (by simp))
      have HM4 := Aside0.mk ((HG4.out.block w.heap.size (by omega) (by simp)).trans HM3.out)
      go_loopw [6] (fun _ wr => ∃ (left : Lit → Bool) (cnt : Nat), Aside0 (wr.ranges Tryz.prog 43 RB b w3.heap.size x.f1.length (mapT (tiedL x.f1 x.f2)) left cnt) ∧ Aside0 (∀ kl, left kl = true → ∃ p ∈ tiedL x.f1 x.f2, litP p = kl) ∧ Aside0 (∀ p ∈ tiedL x.f1 x.f2, left (litP p) = false → hasP (l.getD k1 z41).f1 p = true) ∧ Aside0 (Below w.heap.size w wr) ∧ Aside0 (wr.heap[w.heap.size]? = some (.cells #[.slice (some ad) l.length c0] 32 (0, 0))) ∧ w3.heap.size < wr.heap.size) (fun _ wr => wr.rangeLeft b w3.heap.size)
      case atStart =>
        refine ⟨_, _, HR4, ⟨fun kl hkl => mapT_has.1 hkl⟩, ⟨fun p hp hh => ?_⟩, HB4, HM4, by omega⟩
        have : has (mapT (tiedL x.f1 x.f2)) (litP p) = true := mapT_has.2 ⟨p, hp, rfl⟩
        rw [this] at hh; cases hh
      case round =>
        obtain ⟨left, cnt, HR5, HL5, HH5, HB5, HM5, hz5⟩ := hrel
        clear HR4 HB4 HM4 hz4
        go_wp2_with (first
          | (at_next; refine wpList_next_P _ rfl _ rfl (tiedL x.f1 x.f2) HW.out b w3.heap.size _ _ left cnt HL5.out rfl HR5.out ?_ ?_)
          | go_in)
        · intro hl0
          have HL0 := Aside0.mk hl0
          clear hl0
          go_wp2
          go_roundw
          case rel =>
            refine ⟨k1, by have := HK1.out; omega, rfl, ⟨fun j hj => ?_⟩, HB5, HM5, by omega⟩
            have e1 := HK1.out
            rcases Nat.lt_or_ge j k with hjk | hjk
            · exact HN.out j hjk
            · obtain rfl : j = k := by omega
              rw [HX.out, ← e1]
              unfold badT
              rw [List.any_eq_false]
              intro q hq
              rw [HH5.out q hq (HL0.out _)]
              simp
          case measure => have := HK1.out; simp [intOf]; omega
        · intro p v w6 cnt6 hp hrg6 hlt6 hg6 hs6 hen
          have HB6 := Aside0.mk (pw_below_grown HB5.out (some w3.heap.size) (by omega) hg6 (fun j hj => by cases hj; omega))
          have HM6 := Aside0.mk ((hg6.block w.heap.size (by omega) (by simp; omega)).trans HM5.out)
          have HR6 := Aside0.mk hrg6
          have HP := Aside0.mk hp
          have HT6 := Aside0.mk hlt6
          have m6 : w6.cell? ⟨w.heap.size, 0, none⟩ = some (.slice (some ad) l.length c0) := (blk_cell HM6.out 0).trans rfl
          have hz6 : w.heap.size < w6.heap.size := by omega
          have hz7 : w3.heap.size < w6.heap.size := by omega
          obtain ⟨ad', A1', e1', A2', e2', A7', e7', ha', hy0, hy1, hy2, hy3, hy4, hy5, hy6, hy7, hy8, l1', g1', _⟩ := at_T41 (Kd.C_below HR.out HB6.out) (k1 : Int) (by omega) (by omega)
          obtain rfl := Option.some.inj ha'
          rw [Int.toNat_natCast] at hy1
          have hgy : rd_T41 l (k1 : Int) = l.getD k1 z41 := by simp [rd_T41]
          rw [hgy] at hy1 l1' g1'
          generalize hY : l.getD k1 z41 = y at hy1 l1' g1'
          have HY := Aside0.mk hY
          have hyl := cell_lt hy1
          have HC6 := Aside0.mk (fun W (hb : Below w6.heap.size w6 W) => api_Pitch_82.calls (y.f1.length + 1) A1' e1' y.f1 p.f0 p.f1 p.f2 _ W (Kd.C_below g1' hb) l1' (contains_f _ y.f1 p g1'.2.1 (Nat.le_refl _)))
          have HB7 := Aside0.mk (below_alloc (Below.refl w6.heap.size w6) (.cells #[.int .i64 p.f0, .int .i64 p.f1, .int .i64 p.f2] 43))
          have HB7' := Aside0.mk (below_alloc HB6.out (.cells #[.int .i64 p.f0, .int .i64 p.f1, .int .i64 p.f2] 43))
          have s1 := (World.cell?_alloc_lt w6 (.cells #[.int .i64 p.f0, .int .i64 p.f1, .int .i64 p.f2] 43) _ (cell_lt m6)).trans m6
          have s2 := (World.cell?_alloc_lt w6 (.cells #[.int .i64 p.f0, .int .i64 p.f1, .int .i64 p.f2] 43) _ (cell_lt hy1)).trans hy1
          have hN := blk_new w6 (.cells #[.int .i64 p.f0, .int .i64 p.f1, .int .i64 p.f2] 43)
          have s3 : (w6.alloc (.cells #[.int .i64 p.f0, .int .i64 p.f1, .int .i64 p.f2] 43)).cell? ⟨w6.heap.size, 0, none⟩ = some (.int .i64 p.f0) := (blk_cell hN 0).trans rfl
          have s4 : (w6.alloc (.cells #[.int .i64 p.f0, .int .i64 p.f1, .int .i64 p.f2] 43)).cell? ⟨w6.heap.size, 1, none⟩ = some (.int .i64 p.f1) := (blk_cell hN 1).trans rfl
          have s5 : (w6.alloc (.cells #[.int .i64 p.f0, .int .i64 p.f1, .int .i64 p.f2] 43)).cell? ⟨w6.heap.size, 2, none⟩ = some (.int .i64 p.f2) := (blk_cell hN 2).trans rfl
          have HS6 := Aside0.mk hs6
          clear hs6 hg6 hrg6 hp hlt6 ha' hy0 hy2 hy3 hy4 hy5 hy6 hy7 hy8 g1' hgy hY hN
          cases hq : hasP y.f1 p with
          | true =>
            have HQ := Aside0.mk hq
            rw [hq] at HC6
            clear hq
            go_wp2
            go_region_held3 (fun w' => w'.cell? ⟨w.heap.size, 0, none⟩ = some (.slice (some ad) l.length c0) ∧ w'.cell? ⟨(ad.add (k1 * 9)).block, (ad.add (k1 * 9)).off + 1, none⟩ = some (.slice A1' y.f1.length e1') ∧ w'.cell? ⟨w6.heap.size, 0, none⟩ = some (.int .i64 p.f0) ∧ w'.cell? ⟨w6.heap.size, 1, none⟩ = some (.int .i64 p.f1) ∧ w'.cell? ⟨w6.heap.size, 2, none⟩ = some (.int .i64 p.f2)) (first | (exact ⟨s1, s2, s3, s4, s5⟩) | (exact ⟨q1, q2, q3, q4, q5⟩) | go_keep) (((with_reducible refine (HC6.out _ (by first | exact HB7.out | exact below_drew1 HB7.out | exact pw_below_drewN HB7.out _)).mono ?_); rintro e w8 ⟨rfl, hb8⟩; have HB8 := Aside0.mk (below_step (by first | exact HB7'.out | exact below_drew1 HB7'.out | exact pw_below_drewN HB7'.out _) hb8); have HR8 := Aside0.mk (ranges_on HR6.out (.cells #[.int .i64 p.f0, .int .i64 p.f1, .int .i64 p.f2] 43) hb8 rfl); have HM8 := Aside0.mk (blk_on HM6.out (.cells #[.int .i64 p.f0, .int .i64 p.f1, .int .i64 p.f2] 43) hb8 rfl); have hz8 : w6.heap.size + 1 ≤ w8.heap.size := (by have := hb8.size; simpa using this); have q1 := (hb8.cell (cell_lt s1)).trans s1; have q2 := (hb8.cell (cell_lt s2)).trans s2; have q3 := (hb8.cell (cell_lt s3)).trans s3; have q4 := (hb8.cell (cell_lt s4)).trans s4; have q5 := (hb8.cell (cell_lt s5)).trans s5))
            go_wp2
            go_roundw
            case rel =>
              refine ⟨_, cnt6, HR8, ⟨fun kl hkl => ?_⟩, ⟨fun q hq hh => ?_⟩, HB8, HM8, ?_⟩
              · simp only [Bool.and_eq_true] at hkl; exact HL5.out kl hkl.1
              · rw [HY.out] at HH5 ⊢
                by_cases hl : left (litP q) = false
                · exact HH5.out q hq hl
                · have hl' : left (litP q) = true := by simpa using hl
                  rw [hl', Bool.true_and] at hh
                  have hs : litP q = litP p := WideAt.sameKey_eq (by simpa using hh)
                  have k1 := keyP q (HW.out q hq)
                  rw [hs, ← keyP p (HW.out p HP.out)] at k1
                  have := keyed43.inj (keyP q (HW.out q hq)) (by rw [hs]; exact keyP p (HW.out p HP.out))
                  simp only [aggP, Value.agg.injEq, Array.mk.injEq, List.cons.injEq, Value.int.injEq, true_and, and_true] at this
                  obtain ⟨a1, a2, a3⟩ := this
                  have : q = p := by cases q; cases p; simp_all
                  rw [this]; exact HQ.out
              · have := hz8; omega
            case measure => rw [HR8.out.left_eq, HR5.out.left_eq]; exact HT6.out
          | false =>
            have HQ := Aside0.mk hq
            rw [hq] at HC6
            clear hq
            go_wp2
            go_region_held3 (fun w' => w'.cell? ⟨w.heap.size, 0, none⟩ = some (.slice (some ad) l.length c0) ∧ w'.cell? ⟨(ad.add (k1 * 9)).block, (ad.add (k1 * 9)).off + 1, none⟩ = some (.slice A1' y.f1.length e1') ∧ w'.cell? ⟨w6.heap.size, 0, none⟩ = some (.int .i64 p.f0) ∧ w'.cell? ⟨w6.heap.size, 1, none⟩ = some (.int .i64 p.f1) ∧ w'.cell? ⟨w6.heap.size, 2, none⟩ = some (.int .i64 p.f2)) (first | (exact ⟨s1, s2, s3, s4, s5⟩) | (exact ⟨q1, q2, q3, q4, q5⟩) | go_keep) (((with_reducible refine (HC6.out _ (by first | exact HB7.out | exact below_drew1 HB7.out | exact pw_below_drewN HB7.out _)).mono ?_); rintro e w8 ⟨rfl, hb8⟩; have HB8 := Aside0.mk (below_step (by first | exact HB7'.out | exact below_drew1 HB7'.out | exact pw_below_drewN HB7'.out _) hb8); have q1 := (hb8.cell (cell_lt s1)).trans s1; have q2 := (hb8.cell (cell_lt s2)).trans s2; have q3 := (hb8.cell (cell_lt s3)).trans s3; have q4 := (hb8.cell (cell_lt s4)).trans s4; have q5 := (hb8.cell (cell_lt s5)).trans s5))
            go_wp2
            go_ret2
            have hbad : badT x (l.getD k1 z41) = true := by
              rw [HY.out]
              unfold badT
              exact List.any_eq_true.2 ⟨p, HP.out, by rw [HQ.out]; rfl⟩
            have e1 := HK1.out
            subst e1
            have hbi := badI_at hlt (by rw [HX.out]; exact hbad) HN.out
            have hv : checkV l = ((k : Int), 71) := by rw [HV.out, hbi, if_pos (by omega)]
            rw [hv]
            exact ⟨rfl, by first | exact HB8.out | exact below_drew1 HB8.out | exact pw_below_drewN HB8.out _⟩
    · have hd1 : decide (k1 < l.length) = false := by simpa using hlt
      have hlk1 : ¬ (k1 : Int) < (l.length : Int) := by omega
      have HH : Aside0 (l.length - 1 ≤ k) := ⟨by omega⟩
      clear hk1
      go_wp2
      go_ret2
      have hbi := badI_no (l := l) (fun j hj => HN.out j (by have := HH.out; omega))
      have hv : checkV l = (0, 0) := by rw [HV.out, hbi, if_neg (by omega)]
      rw [hv]
      exact ⟨rfl, HB2.out⟩
theorem check_calls (A0 : Option Addr) (c0 : Nat) (l : List S41) (w : World) (hr : Kd.C k41 w A0 l.length l) (hS : SentsE w) :
    Calls Tryz.prog 59 #[.agg #[.slice A0 l.length c0]] w fun e w' => e = .returned (.tuple #[.int .i64 (checkV l).1, .int .i64 (checkV l).2]) ∧ Below w.heap.size w w' := by
  by_cases h : 64 < l.length
  · exact check_long A0 c0 l w h
  · by_cases hi : 0 ≤ idxF (fun e => !rightE e) l
    · exact check_wrong A0 c0 l w h hi hr hS
    · exact check_ties A0 c0 l w h hi hr hS
end Go.Proofs.YtocjbedacnlaaaaGreatDoor.Q
