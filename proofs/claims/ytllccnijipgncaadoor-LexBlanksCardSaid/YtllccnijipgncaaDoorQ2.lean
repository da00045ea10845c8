-- Written by a program of this session (myprint.py), function by function.
import Derived.Test.YtllccnijipgncaaDoorQ0
import Derived.Test.YtllccnijipgncaaDoorInside
import Derived.Test.YtllccnijipgncaaDoorQuoted
import Derived.Test.YtllccnijipgncaaDoorRun
import Derived.Test.YtllccnijipgncaaDoorSign
namespace Go.Proofs.YtllccnijipgncaaDoor.Q
open Go.RowKit Go.Proofs.YtllccnijipgncaaDoorW.PrintWords Go.Proofs.YtllccnijipgncaaDoorW.PrintLast Go.Proofs.YtllccnijipgncaaDoorW.PrintMore
attribute [local go_sem] max2_int min2_int max_two min_two max_three min_three max_four min_four   -- for this text's walks alone
set_option linter.unusedVariables false
set_option linter.unusedSimpArgs false

/-! ### lex_letter: function 34 -/
def lex_letter.f (a0 : Int) : Option (Bool) := if a0 ≥ 65 then (if a0 ≤ 90 then (some true) else (if a0 ≥ 97 then (some (decide (a0 ≤ 122))) else (some false))) else (if a0 ≥ 97 then (some (decide (a0 ≤ 122))) else (some false))
set_option maxHeartbeats 8000000 in
set_option maxRecDepth 100000 in
theorem lex_letter.calls (a0 : Int) (r : Bool) (w : World) (h : lex_letter.f a0 = some r) :
 Calls Tryd.prog 34 #[.int .u8 a0] w fun e w' => e = .returned (.bool r) ∧ Drawn0 w w' := by
 have H : (if a0 ≥ 65 then (if a0 ≤ 90 then (some true) else (if a0 ≥ 97 then (some (decide (a0 ≤ 122))) else (some false))) else (if a0 ≥ 97 then (some (decide (a0 ≤ 122))) else (some false))) = some r := h
 clear h
 by_cases c2 : a0 ≥ 65
 · rw [if_pos c2] at H
   have c2b0 : decide (65 ≤ a0) = true := decide_eq_true c2
   clear c2
   by_cases c3 : a0 ≤ 90
   · rw [if_pos c3] at H
     have c3b0 : decide (a0 ≤ 90) = true := decide_eq_true c3
     clear c3
     obtain rfl := Option.some.inj H
     go_enter Tryd.func34, Tryd.ntmps34
     go_wp2
     go_ret
     exact ⟨by first | rfl | (simp; done) | (simp [*]; done), by repeat (first | exact Drawn0.refl _ | apply Drawn0.step)⟩
   · rw [if_neg c3] at H
     have c3b0 : decide (a0 ≤ 90) = false := decide_eq_false c3
     clear c3
     by_cases c4 : a0 ≥ 97
     · rw [if_pos c4] at H
       have c4b0 : decide (97 ≤ a0) = true := decide_eq_true c4
       clear c4
       obtain rfl := Option.some.inj H
       go_enter Tryd.func34, Tryd.ntmps34
       go_wp2
       go_ret
       exact ⟨by first | rfl | (simp; done) | (simp [*]; done), by repeat (first | exact Drawn0.refl _ | apply Drawn0.step)⟩
     · rw [if_neg c4] at H
       have c4b0 : decide (97 ≤ a0) = false := decide_eq_false c4
       clear c4
       obtain rfl := Option.some.inj H
       go_enter Tryd.func34, Tryd.ntmps34
       go_wp2
       go_ret
       exact ⟨by first | rfl | (simp; done) | (simp [*]; done), by repeat (first | exact Drawn0.refl _ | apply Drawn0.step)⟩
 · rw [if_neg c2] at H
   have c2b0 : decide (65 ≤ a0) = false := decide_eq_false c2
   clear c2
   by_cases c5 : a0 ≥ 97
   · rw [if_pos c5] at H
     have c5b0 : decide (97 ≤ a0) = true := decide_eq_true c5
     clear c5
     obtain rfl := Option.some.inj H
     go_enter Tryd.func34, Tryd.ntmps34
     go_wp2
     go_ret
     exact ⟨by first | rfl | (simp; done) | (simp [*]; done), by repeat (first | exact Drawn0.refl _ | apply Drawn0.step)⟩
   · rw [if_neg c5] at H
     have c5b0 : decide (97 ≤ a0) = false := decide_eq_false c5
     clear c5
     obtain rfl := Option.some.inj H
     go_enter Tryd.func34, Tryd.ntmps34
     go_wp2
     go_ret
     exact ⟨by first | rfl | (simp; done) | (simp [*]; done), by repeat (first | exact Drawn0.refl _ | apply Drawn0.step)⟩

/-! ### lex_digit: function 36 -/
def lex_digit.f (a0 : Int) : Option (Bool) := if a0 ≥ 48 then (some (decide (a0 ≤ 57))) else (some false)
set_option maxHeartbeats 8000000 in
set_option maxRecDepth 100000 in
theorem lex_digit.calls (a0 : Int) (r : Bool) (w : World) (h : lex_digit.f a0 = some r) :
 Calls Tryd.prog 36 #[.int .u8 a0] w fun e w' => e = .returned (.bool r) ∧ Drawn0 w w' := by
 have H : (if a0 ≥ 48 then (some (decide (a0 ≤ 57))) else (some false)) = some r := h
 clear h
 by_cases c2 : a0 ≥ 48
 · rw [if_pos c2] at H
   have c2b0 : decide (48 ≤ a0) = true := decide_eq_true c2
   clear c2
   obtain rfl := Option.some.inj H
   go_enter Tryd.func36, Tryd.ntmps36
   go_wp2
   go_ret
   exact ⟨by first | rfl | (simp; done) | (simp [*]; done), by repeat (first | exact Drawn0.refl _ | apply Drawn0.step)⟩
 · rw [if_neg c2] at H
   have c2b0 : decide (48 ≤ a0) = false := decide_eq_false c2
   clear c2
   obtain rfl := Option.some.inj H
   go_enter Tryd.func36, Tryd.ntmps36
   go_wp2
   go_ret
   exact ⟨by first | rfl | (simp; done) | (simp [*]; done), by repeat (first | exact Drawn0.refl _ | apply Drawn0.step)⟩

/-! ### lex_inner: function 35 -/
/-- How many bytes from a place on are so (function 23 at the function value 35). -/
def lex_inner.f (a0 : ByteArray) (a1 : Int) : Option Int := if a0.size ≤ 140737488355328 ∧ 0 ≤ a1 ∧ a1 ≤ (a0.size : Int) then some (runL innB a0.data.toList a1.toNat) else none
theorem lex_inner.calls (a0 : ByteArray) (a1 : Int) (r : Int) (w : World) (h : lex_inner.f a0 a1 = some r) :
 Calls Tryd.prog 23 #[.string a0, .int .i64 a1, .func (.func 35) #[] #[]] w fun e w' => e = .returned (.int .i64 r) ∧ Drawn0 w w' := by
  unfold lex_inner.f at h
  by_cases c : a0.size ≤ 140737488355328 ∧ 0 ≤ a1 ∧ a1 ≤ (a0.size : Int)
  · rw [if_pos c] at h
    obtain rfl := Option.some.inj h
    obtain ⟨n, rfl⟩ : ∃ n : Nat, a1 = n := ⟨a1.toNat, by omega⟩
    refine (run_calls 35 innB ans_inner a0 n w c.1 (by omega)).mono ?_
    rintro e w' ⟨rfl, rfl⟩
    exact ⟨rfl, Drawn0.refl _⟩
  · rw [if_neg c] at h; cases h

/-! ### strings_indexFunc: function 59 -/
/-- How many bytes from a place on are so (function 23 at the function value 36). -/
def strings_indexFunc.f (a0 : ByteArray) (a1 : Int) : Option Int := if a0.size ≤ 140737488355328 ∧ 0 ≤ a1 ∧ a1 ≤ (a0.size : Int) then some (runL digB a0.data.toList a1.toNat) else none
theorem strings_indexFunc.calls (a0 : ByteArray) (a1 : Int) (r : Int) (w : World) (h : strings_indexFunc.f a0 a1 = some r) :
 Calls Tryd.prog 23 #[.string a0, .int .i64 a1, .func (.func 36) #[] #[]] w fun e w' => e = .returned (.int .i64 r) ∧ Drawn0 w w' := by
  unfold strings_indexFunc.f at h
  by_cases c : a0.size ≤ 140737488355328 ∧ 0 ≤ a1 ∧ a1 ≤ (a0.size : Int)
  · rw [if_pos c] at h
    obtain rfl := Option.some.inj h
    obtain ⟨n, rfl⟩ : ∃ n : Nat, a1 = n := ⟨a1.toNat, by omega⟩
    refine (run_calls 36 digB ans_digit a0 n w c.1 (by omega)).mono ?_
    rintro e w' ⟨rfl, rfl⟩
    exact ⟨rfl, Drawn0.refl _⟩
  · rw [if_neg c] at h; cases h

/-! ### strings_IndexFunc: function 56 -/
/-- How many bytes from a place on are so (function 23 at the function value 24). -/
def strings_IndexFunc.f (a0 : ByteArray) (a1 : Int) : Option Int := if a0.size ≤ 140737488355328 ∧ 0 ≤ a1 ∧ a1 ≤ (a0.size : Int) then some (runL linB a0.data.toList a1.toNat) else none
theorem strings_IndexFunc.calls (a0 : ByteArray) (a1 : Int) (r : Int) (w : World) (h : strings_IndexFunc.f a0 a1 = some r) :
 Calls Tryd.prog 23 #[.string a0, .int .i64 a1, .func (.func 24) #[] #[]] w fun e w' => e = .returned (.int .i64 r) ∧ Drawn0 w w' := by
  unfold strings_IndexFunc.f at h
  by_cases c : a0.size ≤ 140737488355328 ∧ 0 ≤ a1 ∧ a1 ≤ (a0.size : Int)
  · rw [if_pos c] at h
    obtain rfl := Option.some.inj h
    obtain ⟨n, rfl⟩ : ∃ n : Nat, a1 = n := ⟨a1.toNat, by omega⟩
    refine (run_calls 24 linB ans_line a0 n w c.1 (by omega)).mono ?_
    rintro e w' ⟨rfl, rfl⟩
    exact ⟨rfl, Drawn0.refl _⟩
  · rw [if_neg c] at h; cases h

-- NOT PRINTED: function 23 (lex_run)

/-! ### stringslite_HasPrefix: function 60 -/
def stringslite_HasPrefix.f (a0 : ByteArray) (a1 : ByteArray) : Option (Bool) := if (a0.size : Int) ≥ (a1.size : Int) then (if 0 ≤ (a1.size : Int) then (if (a1.size : Int) ≤ (a0.size : Int) then (some ((a0.extract 0 ((a1.size : Int) : Int).toNat).toList == a1.toList)) else (none)) else (none)) else (some false)
set_option maxHeartbeats 8000000 in
set_option maxRecDepth 100000 in
theorem stringslite_HasPrefix.calls (a0 : ByteArray) (a1 : ByteArray) (r : Bool) (w : World) (h : stringslite_HasPrefix.f a0 a1 = some r) :
 Calls Tryd.prog 60 #[.string a0, .string a1] w fun e w' => e = .returned (.bool r) ∧ Drawn0 w w' := by
 have H : (if (a0.size : Int) ≥ (a1.size : Int) then (if 0 ≤ (a1.size : Int) then (if (a1.size : Int) ≤ (a0.size : Int) then (some ((a0.extract 0 ((a1.size : Int) : Int).toNat).toList == a1.toList)) else (none)) else (none)) else (some false)) = some r := h
 clear h
 by_cases c3 : (a0.size : Int) ≥ (a1.size : Int)
 · rw [if_pos c3] at H
   have c3b0 : decide ((a1.size : Int) ≤ (a0.size : Int)) = true := decide_eq_true c3
   have c3b1 : decide (a1.size ≤ a0.size) = true := decide_eq_true (Int.ofNat_le.mp c3)
   clear c3
   by_cases c4 : 0 ≤ (a1.size : Int)
   · rw [if_pos c4] at H
     have c4b0 := eq_true c4
     have c4b1 : decide (0 ≤ (a1.size : Int)) = true := decide_eq_true c4
     clear c4
     by_cases c5 : (a1.size : Int) ≤ (a0.size : Int)
     · rw [if_pos c5] at H
       have c5b0 := eq_true c5
       have c5b1 : decide ((a1.size : Int) ≤ (a0.size : Int)) = true := decide_eq_true c5
       clear c5
       obtain rfl := Option.some.inj H
       go_enter Tryd.func60, Tryd.ntmps60
       go_wp2
       go_ret
       exact ⟨by first | rfl | (simp; done) | (simp [*]; done), by repeat (first | exact Drawn0.refl _ | apply Drawn0.step)⟩
     · rw [if_neg c5] at H
       exact absurd H (by simp)
   · rw [if_neg c4] at H
     exact absurd H (by simp)
 · rw [if_neg c3] at H
   have c3b0 : decide ((a1.size : Int) ≤ (a0.size : Int)) = false := decide_eq_false c3
   have c3b1 : decide (a1.size ≤ a0.size) = false := decide_eq_false (fun h => c3 (Int.ofNat_le.mpr h))
   clear c3
   obtain rfl := Option.some.inj H
   go_enter Tryd.func60, Tryd.ntmps60
   go_wp2
   go_ret
   exact ⟨by first | rfl | (simp; done) | (simp [*]; done), by repeat (first | exact Drawn0.refl _ | apply Drawn0.step)⟩

/-! ### stringslite_TrimPrefix: function 57 -/
def stringslite_TrimPrefix.f (a0 : ByteArray) (a1 : ByteArray) : Option (ByteArray) := (stringslite_HasPrefix.f a0 a1).bind fun t101 => (if t101 = true then (if 0 ≤ (a1.size : Int) then (if (a1.size : Int) ≤ (a0.size : Int) then (some (a0.extract ((a1.size : Int) : Int).toNat a0.size)) else (none)) else (none)) else (some a0))
set_option maxHeartbeats 8000000 in
set_option maxRecDepth 100000 in
theorem stringslite_TrimPrefix.calls (a0 : ByteArray) (a1 : ByteArray) (r : ByteArray) (w : World) (h : stringslite_TrimPrefix.f a0 a1 = some r) :
 Calls Tryd.prog 57 #[.string a0, .string a1] w fun e w' => e = .returned (.string r) ∧ Drawn0 w w' := by
 have H : ((stringslite_HasPrefix.f a0 a1).bind fun t101 => (if t101 = true then (if 0 ≤ (a1.size : Int) then (if (a1.size : Int) ≤ (a0.size : Int) then (some (a0.extract ((a1.size : Int) : Int).toNat a0.size)) else (none)) else (none)) else (some a0))) = some r := h
 clear h
 replace H := Option.bind_eq_some_iff.mp H
 obtain ⟨t101, A30, H⟩ := H
 replace H : (if t101 = true then (if 0 ≤ (a1.size : Int) then (if (a1.size : Int) ≤ (a0.size : Int) then (some (a0.extract ((a1.size : Int) : Int).toNat a0.size)) else (none)) else (none)) else (some a0)) = some r := H
 have A3 := Aside0.mk A30
 clear A30
 by_cases c4 : t101 = true
 · subst c4
   have H1 : (if 0 ≤ (a1.size : Int) then (if (a1.size : Int) ≤ (a0.size : Int) then (some (a0.extract ((a1.size : Int) : Int).toNat a0.size)) else (none)) else (none)) = some r := by rw [if_pos rfl] at H; exact H
   clear H
   have H := H1
   clear H1
   by_cases c5 : 0 ≤ (a1.size : Int)
   · rw [if_pos c5] at H
     have c5b0 := eq_true c5
     have c5b1 : decide (0 ≤ (a1.size : Int)) = true := decide_eq_true c5
     clear c5
     by_cases c6 : (a1.size : Int) ≤ (a0.size : Int)
     · rw [if_pos c6] at H
       have c6b0 := eq_true c6
       have c6b1 : decide ((a1.size : Int) ≤ (a0.size : Int)) = true := decide_eq_true c6
       clear c6
       obtain rfl := Option.some.inj H
       go_enter Tryd.func57, Tryd.ntmps57
       go_wp2_with (first | ((with_reducible refine gate_callee (f := 60) rfl ?_); refine goesL_ (some 7) rfl rfl Tryd.func60 (by kernel_rfl) rfl #[.string a0, .string a1] rfl (by (try simp only [List.map_toArray, List.map_cons, List.map_nil]); first | done | rfl | (simp only [List.length_drop, List.length_take]; rfl)) ?_; (with_reducible refine (stringslite_HasPrefix.calls a0 a1 true _ A3.out).mono ?_); rintro e w' ⟨rfl, ⟨nd, rfl⟩⟩; refine ⟨_, rfl, ?_⟩))
       go_ret
       exact ⟨by first | rfl | (simp; done) | (simp [*]; done), by repeat (first | exact Drawn0.refl _ | apply Drawn0.step)⟩
     · rw [if_neg c6] at H
       exact absurd H (by simp)
   · rw [if_neg c5] at H
     exact absurd H (by simp)
 · replace c4 := Bool.eq_false_iff.mpr c4
   subst c4
   have H1 : (some a0) = some r := by rw [if_neg (show ¬ (false = true) by decide)] at H; exact H
   clear H
   have H := H1
   clear H1
   obtain rfl := Option.some.inj H
   go_enter Tryd.func57, Tryd.ntmps57
   go_wp2_with (first | ((with_reducible refine gate_callee (f := 60) rfl ?_); refine goesL_ (some 7) rfl rfl Tryd.func60 (by kernel_rfl) rfl #[.string a0, .string a1] rfl (by (try simp only [List.map_toArray, List.map_cons, List.map_nil]); first | done | rfl | (simp only [List.length_drop, List.length_take]; rfl)) ?_; (with_reducible refine (stringslite_HasPrefix.calls a0 a1 false _ A3.out).mono ?_); rintro e w' ⟨rfl, ⟨nd, rfl⟩⟩; refine ⟨_, rfl, ?_⟩))
   go_ret
   exact ⟨by first | rfl | (simp; done) | (simp [*]; done), by repeat (first | exact Drawn0.refl _ | apply Drawn0.step)⟩

/-! ### strings_TrimPrefix: function 50 -/
def strings_TrimPrefix.f (a0 : ByteArray) (a1 : ByteArray) : Option (ByteArray) := (stringslite_TrimPrefix.f a0 a1).bind fun t102 => (some t102)
set_option maxHeartbeats 8000000 in
set_option maxRecDepth 100000 in
theorem strings_TrimPrefix.calls (a0 : ByteArray) (a1 : ByteArray) (r : ByteArray) (w : World) (h : strings_TrimPrefix.f a0 a1 = some r) :
 Calls Tryd.prog 50 #[.string a0, .string a1] w fun e w' => e = .returned (.string r) ∧ Drawn0 w w' := by
 have H : ((stringslite_TrimPrefix.f a0 a1).bind fun t102 => (some t102)) = some r := h
 clear h
 replace H := Option.bind_eq_some_iff.mp H
 obtain ⟨t102, A30, H⟩ := H
 replace H : (some t102) = some r := H
 have A3 := Aside0.mk A30
 clear A30
 obtain rfl := Option.some.inj H
 go_enter Tryd.func50, Tryd.ntmps50
 go_wp2_with (first | ((with_reducible refine gate_callee (f := 57) rfl ?_); refine goesL_ (some 7) rfl rfl Tryd.func57 (by kernel_rfl) rfl #[.string a0, .string a1] rfl (by (try simp only [List.map_toArray, List.map_cons, List.map_nil]); first | done | rfl | (simp only [List.length_drop, List.length_take]; rfl)) ?_; (with_reducible refine (stringslite_TrimPrefix.calls a0 a1 t102 _ A3.out).mono ?_); rintro e w' ⟨rfl, ⟨nd, rfl⟩⟩; refine ⟨_, rfl, ?_⟩))
 go_ret
 exact ⟨by first | rfl | (simp; done) | (simp [*]; done), by repeat (first | exact Drawn0.refl _ | apply Drawn0.step)⟩

/-! ### lex_whole: function 37 -/
def lex_whole.f (a0 : ByteArray) : Option (Bool) := (strings_TrimPrefix.f a0 (⟨#[45]⟩ : ByteArray)).bind fun t103 => (if t103.toList = ([] : List UInt8) then (some false) else ((strings_indexFunc.f t103 0).bind fun t104 => (if t104 = (t103.size : Int) then (if 0 < (t103.size : Int) then (if (bt t103 0) = 48 then (some (a0.toList == ([48] : List UInt8))) else (some true)) else (none)) else (some false))))
set_option maxHeartbeats 8000000 in
set_option maxRecDepth 100000 in
theorem lex_whole.calls (a0 : ByteArray) (r : Bool) (w : World) (h : lex_whole.f a0 = some r) :
 Calls Tryd.prog 37 #[.string a0] w fun e w' => e = .returned (.bool r) ∧ Drawn0 w w' := by
 have H : ((strings_TrimPrefix.f a0 (⟨#[45]⟩ : ByteArray)).bind fun t103 => (if t103.toList = ([] : List UInt8) then (some false) else ((strings_indexFunc.f t103 0).bind fun t104 => (if t104 = (t103.size : Int) then (if 0 < (t103.size : Int) then (if (bt t103 0) = 48 then (some (a0.toList == ([48] : List UInt8))) else (some true)) else (none)) else (some false))))) = some r := h
 clear h
 replace H := Option.bind_eq_some_iff.mp H
 obtain ⟨t103, A20, H⟩ := H
 replace H : (if t103.toList = ([] : List UInt8) then (some false) else ((strings_indexFunc.f t103 0).bind fun t104 => (if t104 = (t103.size : Int) then (if 0 < (t103.size : Int) then (if (bt t103 0) = 48 then (some (a0.toList == ([48] : List UInt8))) else (some true)) else (none)) else (some false)))) = some r := H
 have A2 := Aside0.mk A20
 clear A20
 by_cases c3 : t103.toList = ([] : List UInt8)
 · rw [if_pos c3] at H
   have c3b0 : (t103.toList == ([] : List UInt8)) = true := beq_iff_eq.mpr c3
   have c3b1 : (t103.toList != ([] : List UInt8)) = false := bne_eq_false_iff_eq.mpr c3
   clear c3
   obtain rfl := Option.some.inj H
   go_enter Tryd.func37, Tryd.ntmps37
   go_wp2_with (first | ((with_reducible refine gate_callee (f := 50) rfl ?_); refine goesL_ (some 5) rfl rfl Tryd.func50 (by kernel_rfl) rfl #[.string a0, .string (⟨#[45]⟩ : ByteArray)] rfl (by (try simp only [List.map_toArray, List.map_cons, List.map_nil]); first | done | rfl | (simp only [List.length_drop, List.length_take]; rfl)) ?_; (with_reducible refine (strings_TrimPrefix.calls a0 (⟨#[45]⟩ : ByteArray) t103 _ A2.out).mono ?_); rintro e w' ⟨rfl, ⟨nd, rfl⟩⟩; refine ⟨_, rfl, ?_⟩))
   go_ret
   exact ⟨by first | rfl | (simp; done) | (simp [*]; done), by repeat (first | exact Drawn0.refl _ | apply Drawn0.step)⟩
 · rw [if_neg c3] at H
   have c3b0 : (t103.toList == ([] : List UInt8)) = false := beq_eq_false_iff_ne.mpr c3
   have c3b1 : (t103.toList != ([] : List UInt8)) = true := bne_iff_ne.mpr c3
   replace H := Option.bind_eq_some_iff.mp H
   obtain ⟨t104, A40, H⟩ := H
   replace H : (if t104 = (t103.size : Int) then (if 0 < (t103.size : Int) then (if (bt t103 0) = 48 then (some (a0.toList == ([48] : List UInt8))) else (some true)) else (none)) else (some false)) = some r := H
   have A4 := Aside0.mk A40
   clear A40
   by_cases c5 : t104 = (t103.size : Int)
   · rw [if_pos c5] at H
     have c5b0 : (t104 == (t103.size : Int)) = true := beq_iff_eq.mpr c5
     have c5b1 : (t104 != (t103.size : Int)) = false := bne_eq_false_iff_eq.mpr c5
     clear c5
     by_cases c6 : 0 < (t103.size : Int)
     · rw [if_pos c6] at H
       have c6b0 : decide (0 < (t103.size : Int)) = true := decide_eq_true c6
       have c6b1 : decide (0 < t103.size) = true := decide_eq_true (by omega)
       clear c6
       by_cases c8 : (bt t103 0) = 48
       · rw [if_pos c8] at H
         have c8b0 : ((bt t103 0) == 48) = true := beq_iff_eq.mpr c8
         have c8b1 : ((bt t103 0) != 48) = false := bne_eq_false_iff_eq.mpr c8
         clear c8
         obtain rfl := Option.some.inj H
         go_enter Tryd.func37, Tryd.ntmps37
         go_wp2_with (first | ((with_reducible refine gate_callee (f := 50) rfl ?_); refine goesL_ (some 5) rfl rfl Tryd.func50 (by kernel_rfl) rfl #[.string a0, .string (⟨#[45]⟩ : ByteArray)] rfl (by (try simp only [List.map_toArray, List.map_cons, List.map_nil]); first | done | rfl | (simp only [List.length_drop, List.length_take]; rfl)) ?_; (with_reducible refine (strings_TrimPrefix.calls a0 (⟨#[45]⟩ : ByteArray) t103 _ A2.out).mono ?_); rintro e w' ⟨rfl, ⟨nd, rfl⟩⟩; refine ⟨_, rfl, ?_⟩) | (go_at_call 23; (with_reducible refine (strings_indexFunc.calls t103 0 t104 _ A4.out).mono ?_); rintro e w' ⟨rfl, ⟨nd, rfl⟩⟩; have p7 : 0 ≤ (0 : Int) := (by omega); have q7 : 0 < t103.size := (by have : (0 : Int) < (t103.size : Int) := of_decide_eq_true (by first | (with_reducible assumption) | assumption); omega); have hx7 : ∀ h : 0 < t103.size, ((t103[0]'h).toNat : Int) = bt t103 0 := bt_at t103 0; clear p7; have qi7 : (0 < (t103.size : Int)) = True := eq_true (of_decide_eq_true (by first | (with_reducible assumption) | assumption)); replace q7 := eq_true q7))
         go_ret
         exact ⟨by first | rfl | (simp; done) | (simp [*]; done), by repeat (first | exact Drawn0.refl _ | apply Drawn0.step)⟩
       · rw [if_neg c8] at H
         have c8b0 : ((bt t103 0) == 48) = false := beq_eq_false_iff_ne.mpr c8
         have c8b1 : ((bt t103 0) != 48) = true := bne_iff_ne.mpr c8
         obtain rfl := Option.some.inj H
         go_enter Tryd.func37, Tryd.ntmps37
         go_wp2_with (first | ((with_reducible refine gate_callee (f := 50) rfl ?_); refine goesL_ (some 5) rfl rfl Tryd.func50 (by kernel_rfl) rfl #[.string a0, .string (⟨#[45]⟩ : ByteArray)] rfl (by (try simp only [List.map_toArray, List.map_cons, List.map_nil]); first | done | rfl | (simp only [List.length_drop, List.length_take]; rfl)) ?_; (with_reducible refine (strings_TrimPrefix.calls a0 (⟨#[45]⟩ : ByteArray) t103 _ A2.out).mono ?_); rintro e w' ⟨rfl, ⟨nd, rfl⟩⟩; refine ⟨_, rfl, ?_⟩) | (go_at_call 23; (with_reducible refine (strings_indexFunc.calls t103 0 t104 _ A4.out).mono ?_); rintro e w' ⟨rfl, ⟨nd, rfl⟩⟩; have p7 : 0 ≤ (0 : Int) := (by omega); have q7 : 0 < t103.size := (by have : (0 : Int) < (t103.size : Int) := of_decide_eq_true (by first | (with_reducible assumption) | assumption); omega); have hx7 : ∀ h : 0 < t103.size, ((t103[0]'h).toNat : Int) = bt t103 0 := bt_at t103 0; clear p7; have qi7 : (0 < (t103.size : Int)) = True := eq_true (of_decide_eq_true (by first | (with_reducible assumption) | assumption)); replace q7 := eq_true q7))
         go_ret
         exact ⟨by first | rfl | (simp; done) | (simp [*]; done), by repeat (first | exact Drawn0.refl _ | apply Drawn0.step)⟩
     · rw [if_neg c6] at H
       exact absurd H (by simp)
   · rw [if_neg c5] at H
     have c5b0 : (t104 == (t103.size : Int)) = false := beq_eq_false_iff_ne.mpr c5
     have c5b1 : (t104 != (t103.size : Int)) = true := bne_iff_ne.mpr c5
     obtain rfl := Option.some.inj H
     go_enter Tryd.func37, Tryd.ntmps37
     go_wp2_with (first | ((with_reducible refine gate_callee (f := 50) rfl ?_); refine goesL_ (some 5) rfl rfl Tryd.func50 (by kernel_rfl) rfl #[.string a0, .string (⟨#[45]⟩ : ByteArray)] rfl (by (try simp only [List.map_toArray, List.map_cons, List.map_nil]); first | done | rfl | (simp only [List.length_drop, List.length_take]; rfl)) ?_; (with_reducible refine (strings_TrimPrefix.calls a0 (⟨#[45]⟩ : ByteArray) t103 _ A2.out).mono ?_); rintro e w' ⟨rfl, ⟨nd, rfl⟩⟩; refine ⟨_, rfl, ?_⟩) | (go_at_call 23; (with_reducible refine (strings_indexFunc.calls t103 0 t104 _ A4.out).mono ?_); rintro e w' ⟨rfl, ⟨nd, rfl⟩⟩))
     go_ret
     exact ⟨by first | rfl | (simp; done) | (simp [*]; done), by repeat (first | exact Drawn0.refl _ | apply Drawn0.step)⟩

-- NOT PRINTED: function 54 (abi_NoEscape)

-- NOT PRINTED: function 46 (strings_Builder_copyCheck)

-- NOT PRINTED: function 28 (strings_Builder_WriteByte)

-- NOT PRINTED: function 30 (strings_Builder_String)

/-! ### utf8_word_string: function 55 -/
def utf8_word_string.f (a0 : ByteArray) : Option (Int) := if 0 < (a0.size : Int) then (if 1 < (a0.size : Int) then (if 2 < (a0.size : Int) then (if 3 < (a0.size : Int) then (if 4 < (a0.size : Int) then (if 5 < (a0.size : Int) then (if 6 < (a0.size : Int) then (if 7 < (a0.size : Int) then (some (Go.bits .or .u64 (Go.bits .or .u64 (Go.bits .or .u64 (Go.bits .or .u64 (Go.bits .or .u64 (Go.bits .or .u64 (Go.bits .or .u64 (IntKind.u64.wrap (bt a0 0)) (IntKind.u64.wrap ((IntKind.u64.wrap (bt a0 1)) * 256))) (IntKind.u64.wrap ((IntKind.u64.wrap (bt a0 2)) * 65536))) (IntKind.u64.wrap ((IntKind.u64.wrap (bt a0 3)) * 16777216))) (IntKind.u64.wrap ((IntKind.u64.wrap (bt a0 4)) * 4294967296))) (IntKind.u64.wrap ((IntKind.u64.wrap (bt a0 5)) * 1099511627776))) (IntKind.u64.wrap ((IntKind.u64.wrap (bt a0 6)) * 281474976710656))) (IntKind.u64.wrap ((IntKind.u64.wrap (bt a0 7)) * 72057594037927936)))) else (none)) else (none)) else (none)) else (none)) else (none)) else (none)) else (none)) else (none)
set_option maxHeartbeats 8000000 in
set_option maxRecDepth 100000 in
theorem utf8_word_string.calls (a0 : ByteArray) (r : Int) (w : World) (h : utf8_word_string.f a0 = some r) :
 Calls Tryd.prog 55 #[.string a0] w fun e w' => e = .returned (.int .u64 r) ∧ Drawn0 w w' := by
 have H : (if 0 < (a0.size : Int) then (if 1 < (a0.size : Int) then (if 2 < (a0.size : Int) then (if 3 < (a0.size : Int) then (if 4 < (a0.size : Int) then (if 5 < (a0.size : Int) then (if 6 < (a0.size : Int) then (if 7 < (a0.size : Int) then (some (Go.bits .or .u64 (Go.bits .or .u64 (Go.bits .or .u64 (Go.bits .or .u64 (Go.bits .or .u64 (Go.bits .or .u64 (Go.bits .or .u64 (IntKind.u64.wrap (bt a0 0)) (IntKind.u64.wrap ((IntKind.u64.wrap (bt a0 1)) * 256))) (IntKind.u64.wrap ((IntKind.u64.wrap (bt a0 2)) * 65536))) (IntKind.u64.wrap ((IntKind.u64.wrap (bt a0 3)) * 16777216))) (IntKind.u64.wrap ((IntKind.u64.wrap (bt a0 4)) * 4294967296))) (IntKind.u64.wrap ((IntKind.u64.wrap (bt a0 5)) * 1099511627776))) (IntKind.u64.wrap ((IntKind.u64.wrap (bt a0 6)) * 281474976710656))) (IntKind.u64.wrap ((IntKind.u64.wrap (bt a0 7)) * 72057594037927936)))) else (none)) else (none)) else (none)) else (none)) else (none)) else (none)) else (none)) else (none)) = some r := h
 clear h
 by_cases c2 : 0 < (a0.size : Int)
 · rw [if_pos c2] at H
   have c2b0 : decide (0 < (a0.size : Int)) = true := decide_eq_true c2
   have c2b1 : decide (0 < a0.size) = true := decide_eq_true (by omega)
   clear c2
   by_cases c4 : 1 < (a0.size : Int)
   · rw [if_pos c4] at H
     have c4b0 : decide (1 < (a0.size : Int)) = true := decide_eq_true c4
     have c4b1 : decide (1 < a0.size) = true := decide_eq_true (by omega)
     clear c4
     by_cases c6 : 2 < (a0.size : Int)
     · rw [if_pos c6] at H
       have c6b0 : decide (2 < (a0.size : Int)) = true := decide_eq_true c6
       have c6b1 : decide (2 < a0.size) = true := decide_eq_true (by omega)
       clear c6
       by_cases c8 : 3 < (a0.size : Int)
       · rw [if_pos c8] at H
         have c8b0 : decide (3 < (a0.size : Int)) = true := decide_eq_true c8
         have c8b1 : decide (3 < a0.size) = true := decide_eq_true (by omega)
         clear c8
         by_cases c10 : 4 < (a0.size : Int)
         · rw [if_pos c10] at H
           have c10b0 : decide (4 < (a0.size : Int)) = true := decide_eq_true c10
           have c10b1 : decide (4 < a0.size) = true := decide_eq_true (by omega)
           clear c10
           by_cases c12 : 5 < (a0.size : Int)
           · rw [if_pos c12] at H
             have c12b0 : decide (5 < (a0.size : Int)) = true := decide_eq_true c12
             have c12b1 : decide (5 < a0.size) = true := decide_eq_true (by omega)
             clear c12
             by_cases c14 : 6 < (a0.size : Int)
             · rw [if_pos c14] at H
               have c14b0 : decide (6 < (a0.size : Int)) = true := decide_eq_true c14
               have c14b1 : decide (6 < a0.size) = true := decide_eq_true (by omega)
               clear c14
               by_cases c16 : 7 < (a0.size : Int)
               · rw [if_pos c16] at H
                 have c16b0 : decide (7 < (a0.size : Int)) = true := decide_eq_true c16
                 have c16b1 : decide (7 < a0.size) = true := decide_eq_true (by omega)
                 clear c16
                 obtain rfl := Option.some.inj H
                 have p3 : 0 ≤ (0 : Int) := (by omega)
                 have q3 : 0 < a0.size := (by have : (0 : Int) < (a0.size : Int) := of_decide_eq_true (by first | (with_reducible assumption) | assumption); omega)
                 have hx3 : ∀ h : 0 < a0.size, ((a0[0]'h).toNat : Int) = bt a0 0 := bt_at a0 0
                 clear p3
                 have qi3 : (0 < (a0.size : Int)) = True := eq_true (of_decide_eq_true (by first | (with_reducible assumption) | assumption))
                 replace q3 := eq_true q3
                 have p5 : 0 ≤ (1 : Int) := (by omega)
                 have q5 : 1 < a0.size := (by have : (1 : Int) < (a0.size : Int) := of_decide_eq_true (by first | (with_reducible assumption) | assumption); omega)
                 have hx5 : ∀ h : 1 < a0.size, ((a0[1]'h).toNat : Int) = bt a0 1 := bt_at a0 1
                 clear p5
                 have qi5 : (1 < (a0.size : Int)) = True := eq_true (of_decide_eq_true (by first | (with_reducible assumption) | assumption))
                 replace q5 := eq_true q5
                 have p7 : 0 ≤ (2 : Int) := (by omega)
                 have q7 : 2 < a0.size := (by have : (2 : Int) < (a0.size : Int) := of_decide_eq_true (by first | (with_reducible assumption) | assumption); omega)
                 have hx7 : ∀ h : 2 < a0.size, ((a0[2]'h).toNat : Int) = bt a0 2 := bt_at a0 2
                 clear p7
                 have qi7 : (2 < (a0.size : Int)) = True := eq_true (of_decide_eq_true (by first | (with_reducible assumption) | assumption))
                 replace q7 := eq_true q7
                 have p9 : 0 ≤ (3 : Int) := (by omega)
                 have q9 : 3 < a0.size := (by have : (3 : Int) < (a0.size : Int) := of_decide_eq_true (by first | (with_reducible assumption) | assumption); omega)
                 have hx9 : ∀ h : 3 < a0.size, ((a0[3]'h).toNat : Int) = bt a0 3 := bt_at a0 3
                 clear p9
                 have qi9 : (3 < (a0.size : Int)) = True := eq_true (of_decide_eq_true (by first | (with_reducible assumption) | assumption))
                 replace q9 := eq_true q9
                 have p11 : 0 ≤ (4 : Int) := (by omega)
                 have q11 : 4 < a0.size := (by have : (4 : Int) < (a0.size : Int) := of_decide_eq_true (by first | (with_reducible assumption) | assumption); omega)
                 have hx11 : ∀ h : 4 < a0.size, ((a0[4]'h).toNat : Int) = bt a0 4 := bt_at a0 4
                 clear p11
                 have qi11 : (4 < (a0.size : Int)) = True := eq_true (of_decide_eq_true (by first | (with_reducible assumption) | assumption))
                 replace q11 := eq_true q11
                 have p13 : 0 ≤ (5 : Int) := (by omega)
                 have q13 : 5 < a0.size := (by have : (5 : Int) < (a0.size : Int) := of_decide_eq_true (by first | (with_reducible assumption) | assumption); omega)
                 have hx13 : ∀ h : 5 < a0.size, ((a0[5]'h).toNat : Int) = bt a0 5 := bt_at a0 5
                 clear p13
                 have qi13 : (5 < (a0.size : Int)) = True := eq_true (of_decide_eq_true (by first | (with_reducible assumption) | assumption))
                 replace q13 := eq_true q13
                 have p15 : 0 ≤ (6 : Int) := (by omega)
                 have q15 : 6 < a0.size := (by have : (6 : Int) < (a0.size : Int) := of_decide_eq_true (by first | (with_reducible assumption) | assumption); omega)
                 have hx15 : ∀ h : 6 < a0.size, ((a0[6]'h).toNat : Int) = bt a0 6 := bt_at a0 6
                 clear p15
                 have qi15 : (6 < (a0.size : Int)) = True := eq_true (of_decide_eq_true (by first | (with_reducible assumption) | assumption))
                 replace q15 := eq_true q15
                 have p17 : 0 ≤ (7 : Int) := (by omega)
                 have q17 : 7 < a0.size := (by have : (7 : Int) < (a0.size : Int) := of_decide_eq_true (by first | (with_reducible assumption) | assumption); omega)
                 have hx17 : ∀ h : 7 < a0.size, ((a0[7]'h).toNat : Int) = bt a0 7 := bt_at a0 7
                 clear p17
                 have qi17 : (7 < (a0.size : Int)) = True := eq_true (of_decide_eq_true (by first | (with_reducible assumption) | assumption))
                 replace q17 := eq_true q17
                 go_enter Tryd.func55, Tryd.ntmps55
                 go_wp2
                 repeat (go_quiet (fail); try go_wp2)
                 go_ret
                 exact ⟨by first | rfl | (simp; done) | (simp [*]; done), by repeat (first | exact Drawn0.refl _ | apply Drawn0.step)⟩
               · rw [if_neg c16] at H
                 exact absurd H (by simp)
             · rw [if_neg c14] at H
               exact absurd H (by simp)
           · rw [if_neg c12] at H
             exact absurd H (by simp)
         · rw [if_neg c10] at H
           exact absurd H (by simp)
       · rw [if_neg c8] at H
         exact absurd H (by simp)
     · rw [if_neg c6] at H
       exact absurd H (by simp)
   · rw [if_neg c4] at H
     exact absurd H (by simp)
 · rw [if_neg c2] at H
   exact absurd H (by simp)

-- NOT PRINTED: function 48 (utf8_ValidString)

-- NOT PRINTED: function 49 (strings_ContainsFunc)

/-! ### lex_inside: function 32 -/
/-- May a text stand within quotes? -/
def lex_inside.f (a0 : ByteArray) : Option Bool := if a0.size ≤ 9223372036854775807 then some (insB a0) else none
theorem lex_inside.calls (a0 : ByteArray) (r : Bool) (w : World) (h : lex_inside.f a0 = some r) (TABS : Aside0 (TabsW w) := by exact tabs_step (by assumption) (by repeat (first | (with_reducible first | exact (by assumption : Aside0 (Below _ _ _)).out | apply below_alloc | apply pw_below_drewN | apply below_drew1)))) :
 Calls Tryd.prog 32 #[.string a0] w fun e w' => e = .returned (.bool r) ∧ Below w.heap.size w w' := by
  unfold lex_inside.f at h
  by_cases c : a0.size ≤ 9223372036854775807
  · rw [if_pos c] at h
    obtain rfl := Option.some.inj h
    exact inside_calls a0 w c TABS.out
  · rw [if_neg c] at h; cases h

-- NOT PRINTED: function 61 (bytealg_IndexByteString)

-- NOT PRINTED: function 58 (stringslite_IndexByte)

-- NOT PRINTED: function 51 (strings_IndexByte)

/-! ### lex_quoted: function 38 -/
/-- What is within the quotes that begin at a place, and how many bytes all of it has. -/
def lex_quoted.f (a0 : ByteArray) (a1 : Int) : Option (ByteArray × Int) := if a0.size ≤ 140737488355327 ∧ 0 ≤ a1 ∧ a1 < (a0.size : Int) then some (match qtd (a0.data.toList.drop (a1.toNat + 1)) [] 1 with | none => (⟨#[]⟩, 0) | some (t, n) => (⟨t.toArray⟩, (n : Int))) else none
theorem lex_quoted.calls (a0 : ByteArray) (a1 : Int) (r1 : ByteArray) (r2 : Int) (w : World) (h : lex_quoted.f a0 a1 = some (r1, r2)) (TABS : Aside0 (TabsW w) := by exact tabs_step (by assumption) (by repeat (first | (with_reducible first | exact (by assumption : Aside0 (Below _ _ _)).out | apply below_alloc | apply pw_below_drewN | apply below_drew1)))) :
 Calls Tryd.prog 38 #[.string a0, .int .i64 a1] w fun e w' => e = .returned (.tuple #[.string r1, .int .i64 r2]) ∧ Below w.heap.size w w' := by
  unfold lex_quoted.f at h
  by_cases c : a0.size ≤ 140737488355327 ∧ 0 ≤ a1 ∧ a1 < (a0.size : Int)
  · rw [if_pos c] at h
    obtain ⟨n, rfl⟩ : ∃ n : Nat, a1 = n := ⟨a1.toNat, by omega⟩
    have := quoted_calls a0 n w c.1 (by omega) TABS.out
    rw [Int.toNat_natCast] at h
    cases hq : qtd (a0.data.toList.drop (n + 1)) [] 1 with
    | none =>
      rw [hq] at h this
      obtain ⟨rfl, rfl⟩ := Prod.mk.inj (Option.some.inj h)
      exact this
    | some x =>
      rw [hq] at h this
      obtain ⟨rfl, rfl⟩ := Prod.mk.inj (Option.some.inj h)
      exact this
  · rw [if_neg c] at h; cases h

/-! ### lex_sign: function 39 -/
/-- Is a byte a sign? -/
def lex_sign.f (a0 : Int) : Option Bool := if 0 ≤ a0 ∧ a0 < 256 then some (sgB (UInt8.ofNat a0.toNat)) else none
theorem lex_sign.calls (a0 : Int) (r : Bool) (w : World) (h : lex_sign.f a0 = some r) :
 Calls Tryd.prog 39 #[.int .u8 a0] w fun e w' => e = .returned (.bool r) ∧ Below w.heap.size w w' := by
  unfold lex_sign.f at h
  by_cases c : 0 ≤ a0 ∧ a0 < 256
  · rw [if_pos c] at h
    obtain rfl := Option.some.inj h
    have e : ((UInt8.ofNat a0.toNat).toNat : Int) = a0 := by
      rw [UInt8.toNat_ofNat_of_lt' (by show _ < 256; omega)]; omega
    have := sign_w (UInt8.ofNat a0.toNat) w
    rw [e] at this
    exact this
  · rw [if_neg c] at h; cases h

end Go.Proofs.YtllccnijipgncaaDoor.Q
