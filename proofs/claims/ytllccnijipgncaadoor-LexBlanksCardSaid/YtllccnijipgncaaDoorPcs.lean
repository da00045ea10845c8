/- Numbers and pieces: plain functions. No conditions. -/
import Derived.Test.YtllccnijipgncaaDoorQtd
import Derived.Test.YtllccnijipgncaaDoorSign
import Derived.Test.YtllccnijipgncaaDoorQ2
namespace Go.Proofs.YtllccnijipgncaaDoor.Q
open Go.RowKit Go.Shelf Go.Proofs.YtllccnijipgncaaDoorW.PrintWords
/-- A number's digits: what stands behind a minus, or all of it. -/
def absL : List UInt8 → List UInt8
  | [] => []
  | c :: t => if c.toNat = 45 then t else c :: t
/-- Is a text a number's? -/
def whoL (l : List UInt8) : Bool := match absL l with
  | [] => false
  | d :: t => (d :: t).all digB && (decide (d.toNat ≠ 48) || l == [48])
/-- The piece at the begin of a text: its kind, its text, how many bytes; none: 0. -/
def pcT : List UInt8 → Int × List UInt8 × Nat
  | [] => (0, [], 0)
  | c :: t =>
    if letB c = true then (1, (c :: t).takeWhile innB, ((c :: t).takeWhile innB).length)
    else if digB c = true ∨ c.toNat = 45 ∧ 0 < (t.takeWhile digB).length then (if whoL (c :: t.takeWhile digB) = true then (2, c :: t.takeWhile digB, (t.takeWhile digB).length + 1) else (2, [], 0))
    else if c.toNat = 34 then (match qtd t [] 1 with | none => (3, [], 0) | some (x, n) => (3, x, n))
    else if c.toNat = 10 then (5, [c], 1)
    else if sgB c = true then (4, [c], 1)
    else (0, [], 0)
theorem take_while (p : UInt8 → Bool) (l : List UInt8) : l.take (l.takeWhile p).length = l.takeWhile p := (List.prefix_iff_eq_take.1 (List.takeWhile_prefix p)).symm
theorem ext_list (s : ByteArray) (a b : Nat) : (s.extract a b).data.toList = (s.data.toList.take b).drop a := by
  rw [ByteArray.data_extract, Array.toList_extract, List.extract_eq_take_drop, List.drop_take]
theorem ext_eq (s : ByteArray) (a n : Nat) : s.extract a (a + n) = ⟨((s.data.toList.drop a).take n).toArray⟩ := by
  have h := ext_list s a (a + n)
  rw [List.drop_take, Nat.add_sub_cancel_left] at h
  have : (s.extract a (a + n)).data = (((s.data.toList.drop a).take n).toArray) := by rw [← h, Array.toArray_toList]
  rw [← this]
theorem toList_data (s : ByteArray) : s.toList = s.data.toList := by
  exact ByteArray.toList_eq s
theorem bt_list (s : ByteArray) (i : Nat) (h : i < s.size) : bt s (i : Int) = (s[i].toNat : Int) := by
  unfold bt
  rw [dif_pos (by rw [Int.toNat_natCast]; exact h)]
  rfl
theorem has_f (L : List UInt8) : stringslite_HasPrefix.f ⟨L.toArray⟩ ⟨#[45]⟩ = some (match L with | [] => false | c :: _ => decide (c.toNat = 45)) := by
  unfold stringslite_HasPrefix.f
  cases L with
  | nil => rfl
  | cons c t =>
    have hs : (((⟨(c :: t).toArray⟩ : ByteArray).size : Nat) : Int) = (t.length : Int) + 1 := by
      rw [← size_list]; simp
    have h1 : (((⟨#[45]⟩ : ByteArray).size : Nat) : Int) = 1 := rfl
    rw [hs, h1, if_pos (by omega), if_pos (by omega), if_pos (by omega)]
    have he := ext_eq ⟨(c :: t).toArray⟩ 0 1
    simp only [Nat.zero_add] at he
    rw [show ((1 : Int)).toNat = 1 from rfl, he, toList_data, toList_data]
    simp only [List.drop_zero, List.take_succ_cons, List.take_zero]
    congr 1
    rw [Bool.eq_iff_iff, decide_eq_true_iff, beq_iff_eq]
    constructor
    · intro h
      have : [c] = [45] := h
      injection this with h1
      rw [h1]; rfl
    · intro h
      have : c = 45 := UInt8.toNat_inj.1 h
      rw [this]
theorem trim_f (L : List UInt8) : strings_TrimPrefix.f ⟨L.toArray⟩ ⟨#[45]⟩ = some ⟨(absL L).toArray⟩ := by
  unfold strings_TrimPrefix.f stringslite_TrimPrefix.f
  rw [has_f]
  cases L with
  | nil => rfl
  | cons c t =>
    simp only [Option.bind_some]
    by_cases h : c.toNat = 45
    · have hs : (((⟨(c :: t).toArray⟩ : ByteArray).size : Nat) : Int) = (t.length : Int) + 1 := by
        rw [← size_list]; simp
      have h1 : (((⟨#[45]⟩ : ByteArray).size : Nat) : Int) = 1 := rfl
      rw [decide_eq_true h, if_pos rfl, h1, if_pos (by omega), if_pos (show (1 : Int) ≤ _ by rw [hs]; omega)]
      simp only [Option.bind_some, absL, if_pos h]
      have hz : (⟨(c :: t).toArray⟩ : ByteArray).size = 1 + t.length := by rw [← size_list]; show t.length + 1 = _; omega
      rw [show ((1 : Int)).toNat = 1 from rfl, hz, ext_eq]
      simp
    · rw [decide_eq_false h, if_neg (by simp)]
      simp only [Option.bind_some, absL, if_neg h]
theorem run_all (p : UInt8 → Bool) (l : List UInt8) : (runL p l 0 = l.length) ↔ l.all p = true := by
  unfold runL
  rw [List.drop_zero]
  induction l with
  | nil => simp
  | cons c t ih =>
    rw [List.takeWhile_cons, List.all_cons]
    cases p c with
    | true => simp only [if_true, List.length_cons, Bool.true_and]; rw [← ih]; omega
    | false => simp
theorem whole_f (L : List UInt8) (h : L.length ≤ 140737488355328) : lex_whole.f ⟨L.toArray⟩ = some (whoL L) := by
  unfold lex_whole.f
  rw [trim_f]
  simp only [Option.bind_some]
  rw [toList_data]
  have hab : (absL L).length ≤ L.length := by
    unfold absL; split
    · simp
    · split <;> simp
  unfold whoL
  show (if absL L = [] then _ else _) = _
  generalize hA : absL L = A at hab
  cases A with
  | nil => rfl
  | cons d t =>
    rw [if_neg (by simp)]
    unfold strings_indexFunc.f
    have hz : (⟨(d :: t).toArray⟩ : ByteArray).size = (d :: t).length := by rw [← size_list]
    rw [if_pos ⟨by rw [hz]; omega, by omega, by omega⟩]
    simp only [Option.bind_some]
    have hr := run_all digB (d :: t)
    rw [hz]
    by_cases c : runL digB (d :: t) 0 = (d :: t).length
    · rw [show (0 : Int).toNat = 0 from rfl]
      rw [if_pos (by exact congrArg Int.ofNat c), if_pos (by simp), hr.1 c, Bool.true_and]
      have hb : bt ⟨(d :: t).toArray⟩ 0 = (d.toNat : Int) := bt_list ⟨(d :: t).toArray⟩ 0 (by rw [hz]; exact Nat.succ_pos _)
      rw [hb]
      by_cases e : d.toNat = 48
      · rw [if_pos (by omega), decide_eq_false (by omega), Bool.false_or, toList_data]
      · rw [if_neg (by omega), decide_eq_true e, Bool.true_or]
    · have ha : (d :: t).all digB = false := Bool.eq_false_iff.2 (fun h => c (hr.2 h))
      rw [show (0 : Int).toNat = 0 from rfl]
      rw [if_neg (by intro h'; exact c (Int.ofNat.inj h')), ha, Bool.false_and]
end Go.Proofs.YtllccnijipgncaaDoor.Q
