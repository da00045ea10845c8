/- What may stand within quotes: the walk over the library's ValidString and ContainsFunc. No conditions but for the two tables of package utf8. -/
import Derived.Test.YtllccnijipgncaaDoorShelf
import Derived.Test.YtllccnijipgncaaDoorRun
import Derived.Test.YtllccnijipgncaaDoorQ0
import Derived.Below
namespace Go.Proofs.YtllccnijipgncaaDoor.Q
open Go.RowKit Go.Shelf Go.Proofs.YtllccnijipgncaaDoorW.PrintWords
set_option linter.unusedVariables false
set_option linter.unusedSimpArgs false
/-- The two listed variables hold package utf8's tables. -/
def TabsW (w : World) : Prop := Lib.Utf8Tabs 0 1 w
theorem TabsW.below {w W : World} (h : TabsW w) (hb : Below w.heap.size w W) : TabsW W := Utf8Tabs_below h hb
theorem tabs_step {w X : World} (h : Aside0 (TabsW w)) (hb : Below w.heap.size w X) : Aside0 (TabsW X) := ⟨h.out.below hb⟩
/-- Runes that no text within quotes holds. -/
def oddR (r : Nat) : Bool := decide (r < 32 ∧ r ≠ 10 ∧ r ≠ 9 ∨ r = 127)
set_option maxHeartbeats 2000000 in
set_option maxRecDepth 100000 in
theorem odd_w (r : Nat) (hr : r ≤ 1114111) (w : World) : Calls Tryd.prog 47 #[.int .i32 (r : Int)] w fun e w' => e = .returned (.bool (oddR r)) ∧ w = w' := by
  obtain ⟨B, hB⟩ : ∃ B, oddR r = B := ⟨_, rfl⟩
  rw [hB]
  obtain ⟨N, hN⟩ : ∃ N : Int, N = (r : Int) := ⟨_, rfl⟩
  have HB : Aside0 (B = decide (N < 32 ∧ N ≠ 10 ∧ N ≠ 9 ∨ N = 127)) := ⟨by rw [← hB, hN]; unfold oddR; rw [decide_eq_decide]; omega⟩
  rw [← hN]
  clear hB hN hr
  by_cases c1 : N < 32
  · by_cases c2 : N = 10
    · have c2a : (N == 10) = true := by simp; omega
      have c2b : (N != 10) = false := by simp; omega
      have c3a : (N == 127) = false := by simp; omega
      have HC : Aside0 (B = false) := ⟨by rw [HB.out, decide_eq_false_iff_not]; omega⟩
      obtain rfl := HC.out
      clear HB HC c2
      go_enter Tryd.func47, Tryd.ntmps47
      go_wp2
      go_ret
      exact ⟨rfl, rfl⟩
    · have c2a : (N == 10) = false := by simp; omega
      have c2b : (N != 10) = true := by simp; omega
      by_cases c3 : N = 9
      · have c3a : (N == 9) = true := by simp; omega
        have c3b : (N != 9) = false := by simp; omega
        have c4a : (N == 127) = false := by simp; omega
        have HC : Aside0 (B = false) := ⟨by rw [HB.out, decide_eq_false_iff_not]; omega⟩
        obtain rfl := HC.out
        clear HB HC c2 c3
        go_enter Tryd.func47, Tryd.ntmps47
        go_wp2
        go_ret
        exact ⟨rfl, rfl⟩
      · have c3a : (N == 9) = false := by simp; omega
        have c3b : (N != 9) = true := by simp; omega
        have HC : Aside0 (B = true) := ⟨by rw [HB.out, decide_eq_true_iff]; omega⟩
        obtain rfl := HC.out
        clear HB HC c2 c3
        go_enter Tryd.func47, Tryd.ntmps47
        go_wp2
        go_ret
        exact ⟨rfl, rfl⟩
  · by_cases c4 : N = 127
    · have c4a : (N == 127) = true := by simp; omega
      have HC : Aside0 (B = true) := ⟨by rw [HB.out, decide_eq_true_iff]; omega⟩
      obtain rfl := HC.out
      clear HB HC c4
      go_enter Tryd.func47, Tryd.ntmps47
      go_wp2
      go_ret
      exact ⟨rfl, rfl⟩
    · have c4a : (N == 127) = false := by simp; omega
      have HC : Aside0 (B = false) := ⟨by rw [HB.out, decide_eq_false_iff_not]; omega⟩
      obtain rfl := HC.out
      clear HB HC c4
      go_enter Tryd.func47, Tryd.ntmps47
      go_wp2
      go_ret
      exact ⟨rfl, rfl⟩
theorem odd_grows (w : World) : PredGrows Tryd.prog 47 #[] oddR w := fun W x hx _ => (odd_w x hx W).mono fun _ _ ⟨he, hw⟩ => ⟨he, hw ▸ Below.refl _ _⟩
/-- May a text stand within quotes? -/
def insB (s : ByteArray) : Bool := Lib.validD s.data.toList && !decide (0 ≤ Lib.idxFunc oddR true s)
set_option maxHeartbeats 2000000 in
set_option maxRecDepth 100000 in
theorem inside_calls (s : ByteArray) (w : World) (hs : s.size ≤ 9223372036854775807) (hT : TabsW w) :
    Calls Tryd.prog 32 #[.string s] w fun e w' => e = .returned (.bool (insB s)) ∧ Below w.heap.size w w' := by
  have cV : Calls Tryd.prog 48 #[.string s] w _ := Any.utf8_ValidString Tryd.laysValid s w hs hT
  have cF : ∀ W, Calls Tryd.prog 49 #[.string s, .func (.func 47) #[] #[]] W _ := fun W => Tryd.strings_ContainsFunc_grows 47 #[] (enters_of Tryd.func47 (by kernel_rfl) rfl) oddR s W (odd_grows W)
  unfold insB
  generalize Lib.validD s.data.toList = V at cV ⊢
  generalize decide (0 ≤ Lib.idxFunc oddR true s) = F at cF ⊢
  clear hT
  cases V with
  | true =>
    rw [Bool.true_and]
    go_enter Tryd.func32, Tryd.ntmps32
    go_wp2_with (first | (go_at_call 48; ((with_reducible refine cV.mono ?_); rintro e w1 ⟨rfl, hb1⟩)) | (go_at_call 49; ((with_reducible refine (cF _).mono ?_); rintro e w2 ⟨rfl, hb2⟩)))
    go_ret
    exact ⟨rfl, hb1.trans (hb2.mono hb1.size)⟩
  | false =>
    rw [Bool.false_and]
    go_enter Tryd.func32, Tryd.ntmps32
    go_wp2_with (first | (go_at_call 48; ((with_reducible refine cV.mono ?_); rintro e w1 ⟨rfl, hb1⟩)) | (go_at_call 49; ((with_reducible refine (cF _).mono ?_); rintro e w2 ⟨rfl, hb2⟩)))
    go_ret
    exact ⟨rfl, hb1⟩
end Go.Proofs.YtllccnijipgncaaDoor.Q
