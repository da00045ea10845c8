/- What stands within quotes, and how it is written: plain functions. No conditions. -/
import Derived.Test.YtllccnijipgncaaDoorInside
namespace Go.Proofs.YtllccnijipgncaaDoor.Q
/-- May these bytes stand within quotes? -/
def insL (l : List UInt8) : Bool := insB ⟨l.toArray⟩
/-- What a backslash, and a byte behind it, stand for. -/
def escB (d : UInt8) : Option UInt8 := if d.toNat = 34 then some 34 else if d.toNat = 92 then some 92 else if d.toNat = 110 then some 10 else if d.toNat = 116 then some 9 else none
/-- What is quoted, from what stands behind the quote on: what is read so far, how many bytes so far. -/
def qtd : List UInt8 → List UInt8 → Nat → Option (List UInt8 × Nat)
  | [], _, _ => none
  | c :: r, acc, n =>
    if c.toNat < 32 then none
    else if c.toNat = 34 then (if insL acc then some (acc, n + 1) else none)
    else if c.toNat ≠ 92 then qtd r (acc ++ [c]) (n + 1)
    else match r with
      | [] => none
      | d :: r' => match escB d with
        | none => none
        | some x => qtd r' (acc ++ [x]) (n + 2)
/-- How a byte is written within quotes. -/
def qtB (c : UInt8) : List UInt8 := if c.toNat = 34 then [92, 34] else if c.toNat = 92 then [92, 92] else if c.toNat = 10 then [92, 110] else if c.toNat = 9 then [92, 116] else [c]
def quoL (l : List UInt8) : List UInt8 := [34] ++ l.flatMap qtB ++ [34]
theorem qtB_le (c : UInt8) : (qtB c).length ≤ 2 := by unfold qtB; (repeat' split) <;> simp
theorem flat_le (l : List UInt8) : (l.flatMap qtB).length ≤ 2 * l.length := by
  induction l with
  | nil => simp
  | cons c l ih => have := qtB_le c; simp only [List.flatMap_cons, List.length_append, List.length_cons]; omega
theorem quoL_le (l : List UInt8) : (quoL l).length ≤ 2 * l.length + 2 := by
  have := flat_le l
  unfold quoL; simp only [List.length_append, List.length_cons, List.length_nil]; omega
end Go.Proofs.YtllccnijipgncaaDoor.Q
