/- How many bytes, from a place on, are so: the walk at any function value that answers as a plain predicate does. -/
import Derived.Test.YtllccnijipgncaaDoorQ0
import Derived.Shelf.Abstract
import Derived.WalkKit
import Derived.BigCall
import Derived.IntWalk

namespace Go.Proofs.YtllccnijipgncaaDoor.Q
open Go.RowKit Go.Shelf Go.Proofs.YtllccnijipgncaaDoorW.PrintWords
set_option linter.unusedVariables false
set_option linter.unusedSimpArgs false
/-- How many bytes from a place on are so. -/
def runL (p : UInt8 → Bool) (l : List UInt8) (a : Nat) : Nat := ((l.drop a).takeWhile p).length
theorem runL_le (p : UInt8 → Bool) (l : List UInt8) (a : Nat) (h : a ≤ l.length) : a + runL p l a ≤ l.length := by
  have := (List.takeWhile_prefix p (l := l.drop a)).length_le
  rw [List.length_drop] at this
  unfold runL; omega
theorem runL_none (p : UInt8 → Bool) (l : List UInt8) (a : Nat) (h : l.length ≤ a) : runL p l a = 0 := by
  unfold runL; rw [List.drop_of_length_le h]; rfl
theorem runL_step (p : UInt8 → Bool) (l : List UInt8) (a : Nat) (h : a < l.length) : runL p l a = if p l[a] = true then runL p l (a + 1) + 1 else 0 := by
  unfold runL
  rw [List.drop_eq_getElem_cons h, List.takeWhile_cons]
  split <;> simp_all
theorem ret_nat {a b : Nat} (h : a = b) : Ending.returned (.int .i64 (a : Int)) = .returned (.int .i64 (b : Int)) := by rw [h]
/-- What a function value must answer. -/
def Answers (g : Nat) (p : UInt8 → Bool) : Prop := (∀ args w, (callFunc g args).run Tryd.prog w = .ok (.enter g args) w) ∧ ∀ (c : UInt8) (w : World), Calls Tryd.prog g #[.int .u8 (c.toNat : Int)] w fun e w' => e = .returned (.bool (p c)) ∧ w = w'
theorem size_list (s : ByteArray) : s.data.toList.length = s.size := Array.length_toList
theorem get_list (s : ByteArray) (k : Nat) (h : k < s.size) : s.data.toList[k]'(by rw [size_list]; exact h) = s[k] := rfl
set_option maxHeartbeats 1000000 in
set_option maxRecDepth 100000 in
theorem run_calls (g : Nat) (p : UInt8 → Bool) (hg : Answers g p) (s : ByteArray) (a : Nat) (w : World) (hs : s.size ≤ 140737488355328) (ha : a ≤ s.size) :
    Calls Tryd.prog 23 #[.string s, .int .i64 a, .func (.func g) #[] #[]] w fun e w' => e = .returned (.int .i64 (runL p s.data.toList a)) ∧ w = w' := by
  have eg := hg.1
  have hG := hg.2
  obtain ⟨N, hN⟩ : ∃ N, runL p s.data.toList a = N := ⟨_, rfl⟩
  have hb : a + N ≤ s.size := by rw [← hN, ← size_list]; exact runL_le p _ a (by rw [size_list]; exact ha)
  rw [hN]
  have HN := Aside0.mk hN
  clear hN hg
  go_enter Tryd.func23, Tryd.ntmps23
  go_wp2
  go_loop [7] (fun n => ∃ k : Nat, n = .int .i64 k ∧ k ≤ N ∧ runL p s.data.toList (a + k) + k = N) (fun n => N - (intOf n).toNat)
  case atStart => exact ⟨0, rfl, Nat.zero_le _, HN.out⟩
  case round =>
    obtain ⟨k, rfl, hk, hr⟩ := hrel
    have w1 : IntKind.i64.wrap ((a : Int) + (k : Int)) = ((a + k : Nat) : Int) := by rw [IntWalk.i64_in _ (by omega)]; omega
    have w2 : IntKind.i64.wrap ((k : Int) + 1) = ((k + 1 : Nat) : Int) := by rw [IntWalk.i64_in _ (by omega)]; omega
    by_cases hlt : a + k < s.size
    · have hst := runL_step p s.data.toList (a + k) (by rw [size_list]; exact hlt)
      rw [get_list s _ hlt] at hst
      have c0 : ((a + k : Nat) : Int) < (s.size : Int) := by omega
      by_cases hp : p s[a + k] = true
      · rw [if_pos hp] at hst
        have HH : Aside0 (runL p s.data.toList (a + (k + 1)) + (k + 1) = N ∧ k + 1 ≤ N) := ⟨by rw [show a + (k + 1) = a + k + 1 by omega]; omega, by omega⟩
        have hc := hG s[a + k]
        rw [hp] at hc
        clear hst hr hG
        go_wp2_with (first | (refine (hc _).mono ?_; rintro e w' ⟨rfl, rfl⟩))
        have HN2 := HH.out
        exact ⟨⟨k + 1, by go_num, HN2.2, HN2.1⟩, by simp [intOf]; omega⟩
      · rw [if_neg hp] at hst
        have hp' : p s[a + k] = false := Bool.eq_false_iff.2 hp
        have HH : Aside0 (k = N) := ⟨by omega⟩
        have hc := hG s[a + k]
        rw [hp'] at hc
        clear hst hr hG hp
        go_wp2_with (first | (refine (hc _).mono ?_; rintro e w' ⟨rfl, rfl⟩))
        go_ret
        exact ⟨ret_nat HH.out, rfl⟩
    · have HH : Aside0 (k = N) := ⟨by
        rw [runL_none p _ _ (by rw [size_list]; omega)] at hr; omega⟩
      have c0 : ¬ ((a : Int) + (k : Int) < (s.size : Int)) := by omega
      clear hr hG
      go_wp2
      go_ret
      exact ⟨ret_nat HH.out, rfl⟩
/-- Is a byte a letter, a digit, one of a word's inner ones? -/
def letB (c : UInt8) : Bool := decide (65 ≤ c.toNat ∧ c.toNat ≤ 90 ∨ 97 ≤ c.toNat ∧ c.toNat ≤ 122)
def digB (c : UInt8) : Bool := decide (48 ≤ c.toNat ∧ c.toNat ≤ 57)
def innB (c : UInt8) : Bool := letB c || digB c || decide (c.toNat = 35 ∨ c.toNat = 95)
def linB (c : UInt8) : Bool := decide (c.toNat ≠ 10)
theorem dec_of {p : Prop} [Decidable p] {b : Bool} (h : decide p = b) (k : b = true ↔ p) : decide p = b := h
set_option maxHeartbeats 2000000 in
set_option maxRecDepth 100000 in
theorem letter_w (c : UInt8) (w : World) : Calls Tryd.prog 34 #[.int .u8 (c.toNat : Int)] w fun e w' => e = .returned (.bool (letB c)) ∧ w = w' := by
  obtain ⟨B, hB⟩ : ∃ B, letB c = B := ⟨_, rfl⟩
  rw [hB]
  unfold letB at hB
  have HB := Aside0.mk hB
  clear hB
  by_cases h1 : (65 : Int) ≤ (c.toNat : Int) <;> by_cases h2 : (c.toNat : Int) ≤ 90 <;> by_cases h3 : (97 : Int) ≤ (c.toNat : Int) <;> by_cases h4 : (c.toNat : Int) ≤ 122
  all_goals
    first
    | (exfalso; omega)
    | (have HH : Aside0 (B = true) := ⟨by rw [← HB.out, decide_eq_true_iff]; omega⟩
       have hh := HH.out
       subst hh
       clear HB HH
       go_enter Tryd.func34, Tryd.ntmps34
       go_wp2
       go_ret
       exact ⟨rfl, rfl⟩)
    | (have HH : Aside0 (B = false) := ⟨by rw [← HB.out, decide_eq_false_iff_not]; omega⟩
       have hh := HH.out
       subst hh
       clear HB HH
       go_enter Tryd.func34, Tryd.ntmps34
       go_wp2
       go_ret
       exact ⟨rfl, rfl⟩)
set_option maxHeartbeats 2000000 in
set_option maxRecDepth 100000 in
theorem digit_w (c : UInt8) (w : World) : Calls Tryd.prog 36 #[.int .u8 (c.toNat : Int)] w fun e w' => e = .returned (.bool (digB c)) ∧ w = w' := by
  obtain ⟨B, hB⟩ : ∃ B, digB c = B := ⟨_, rfl⟩
  rw [hB]
  unfold digB at hB
  have HB := Aside0.mk hB
  clear hB
  by_cases h1 : (48 : Int) ≤ (c.toNat : Int) <;> by_cases h2 : (c.toNat : Int) ≤ 57
  all_goals
    first
    | (have HH : Aside0 (B = true) := ⟨by rw [← HB.out, decide_eq_true_iff]; omega⟩
       have hh := HH.out
       subst hh
       clear HB HH
       go_enter Tryd.func36, Tryd.ntmps36
       go_wp2
       go_ret
       exact ⟨rfl, rfl⟩)
    | (have HH : Aside0 (B = false) := ⟨by rw [← HB.out, decide_eq_false_iff_not]; omega⟩
       have hh := HH.out
       subst hh
       clear HB HH
       go_enter Tryd.func36, Tryd.ntmps36
       go_wp2
       go_ret
       exact ⟨rfl, rfl⟩)
set_option maxHeartbeats 2000000 in
set_option maxRecDepth 100000 in
theorem line_w (c : UInt8) (w : World) : Calls Tryd.prog 24 #[.int .u8 (c.toNat : Int)] w fun e w' => e = .returned (.bool (linB c)) ∧ w = w' := by
  obtain ⟨B, hB⟩ : ∃ B, linB c = B := ⟨_, rfl⟩
  rw [hB]
  unfold linB at hB
  by_cases h1 : c.toNat = 10
  · obtain rfl : false = B := by rw [← hB]; symm; rw [decide_eq_false_iff_not]; omega
    have h1' : ((c.toNat : Int) != 10) = false := by simp; omega
    have h1'' : ((c.toNat : Int) == 10) = true := by simp; omega
    clear hB h1
    go_enter Tryd.func24, Tryd.ntmps24
    go_wp2
    go_ret
    exact ⟨rfl, rfl⟩
  · obtain rfl : true = B := by rw [← hB]; symm; rw [decide_eq_true_iff]; omega
    have h1' : ((c.toNat : Int) != 10) = true := by simp; omega
    have h1'' : ((c.toNat : Int) == 10) = false := by simp; omega
    clear hB h1
    go_enter Tryd.func24, Tryd.ntmps24
    go_wp2
    go_ret
    exact ⟨rfl, rfl⟩
set_option maxHeartbeats 2000000 in
set_option maxRecDepth 100000 in
theorem inner_w (c : UInt8) (w : World) : Calls Tryd.prog 35 #[.int .u8 (c.toNat : Int)] w fun e w' => e = .returned (.bool (innB c)) ∧ w = w' := by
  have hL := letter_w c
  have hD := digit_w c
  obtain ⟨B, hB⟩ : ∃ B, innB c = B := ⟨_, rfl⟩
  rw [hB]
  unfold innB at hB
  obtain ⟨L, hl⟩ : ∃ L, letB c = L := ⟨_, rfl⟩
  obtain ⟨D, hd⟩ : ∃ D, digB c = D := ⟨_, rfl⟩
  rw [hl] at hL hB
  rw [hd] at hD hB
  clear hl hd
  obtain ⟨N, hN⟩ : ∃ N : Int, N = (c.toNat : Int) := ⟨_, rfl⟩
  rw [← hN] at hL hD ⊢
  have HB : Aside0 (B = (L || D || decide (N = 35) || decide (N = 95))) := ⟨by
    rw [← hB, hN]
    cases L <;> cases D <;> simp
    rw [Bool.eq_iff_iff]; simp; omega⟩
  clear hB hN
  cases L with
  | true =>
    obtain rfl := HB.out
    clear HB
    go_enter Tryd.func35, Tryd.ntmps35
    go_wp2_with (first | (go_at_call 34; ((with_reducible refine (hL _).mono ?_); rintro e w' ⟨rfl, rfl⟩)) | (go_at_call 36; ((with_reducible refine (hD _).mono ?_); rintro e w' ⟨rfl, rfl⟩)))
    go_ret
    exact ⟨rfl, rfl⟩
  | false =>
    cases D with
    | true =>
      obtain rfl := HB.out
      clear HB
      go_enter Tryd.func35, Tryd.ntmps35
      go_wp2_with (first | (go_at_call 34; ((with_reducible refine (hL _).mono ?_); rintro e w' ⟨rfl, rfl⟩)) | (go_at_call 36; ((with_reducible refine (hD _).mono ?_); rintro e w' ⟨rfl, rfl⟩)))
      go_ret
      exact ⟨rfl, rfl⟩
    | false =>
      by_cases h3 : N = 35
      · have h3' : (N == 35) = true := by simp; omega
        have HC : Aside0 (B = true) := ⟨by rw [HB.out, decide_eq_true h3]; rfl⟩
        obtain rfl := HC.out
        clear h3 HB HC
        go_enter Tryd.func35, Tryd.ntmps35
        go_wp2_with (first | (go_at_call 34; ((with_reducible refine (hL _).mono ?_); rintro e w' ⟨rfl, rfl⟩)) | (go_at_call 36; ((with_reducible refine (hD _).mono ?_); rintro e w' ⟨rfl, rfl⟩)))
        go_ret
        exact ⟨rfl, rfl⟩
      · have h3' : (N == 35) = false := by simp; omega
        by_cases h4 : N = 95
        · have h4' : (N == 95) = true := by simp; omega
          have HC : Aside0 (B = true) := ⟨by rw [HB.out, decide_eq_true h4]; simp⟩
          obtain rfl := HC.out
          clear h3 h4 HB HC
          go_enter Tryd.func35, Tryd.ntmps35
          go_wp2_with (first | (go_at_call 34; ((with_reducible refine (hL _).mono ?_); rintro e w' ⟨rfl, rfl⟩)) | (go_at_call 36; ((with_reducible refine (hD _).mono ?_); rintro e w' ⟨rfl, rfl⟩)))
          go_ret
          exact ⟨rfl, rfl⟩
        · have h4' : (N == 95) = false := by simp; omega
          have HC : Aside0 (B = false) := ⟨by rw [HB.out, decide_eq_false h3, decide_eq_false h4]; rfl⟩
          obtain rfl := HC.out
          clear h3 h4 HB HC
          go_enter Tryd.func35, Tryd.ntmps35
          go_wp2_with (first | (go_at_call 34; ((with_reducible refine (hL _).mono ?_); rintro e w' ⟨rfl, rfl⟩)) | (go_at_call 36; ((with_reducible refine (hD _).mono ?_); rintro e w' ⟨rfl, rfl⟩)))
          go_ret
          exact ⟨rfl, rfl⟩
theorem ans_digit : Answers 36 digB := ⟨enters_of Tryd.func36 (by kernel_rfl) rfl, digit_w⟩
theorem ans_inner : Answers 35 innB := ⟨enters_of Tryd.func35 (by kernel_rfl) rfl, inner_w⟩
theorem ans_line : Answers 24 linB := ⟨enters_of Tryd.func24 (by kernel_rfl) rfl, line_w⟩
end Go.Proofs.YtllccnijipgncaaDoor.Q
