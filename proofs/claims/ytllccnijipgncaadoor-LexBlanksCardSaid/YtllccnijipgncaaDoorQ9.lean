-- Written by a program of this session (myprint.py), function by function.
import Derived.Test.YtllccnijipgncaaDoorQ0
import Derived.Test.YtllccnijipgncaaDoorQ8
namespace Go.Proofs.YtllccnijipgncaaDoor.Q
open Go.RowKit Go.Proofs.YtllccnijipgncaaDoorW.PrintWords Go.Proofs.YtllccnijipgncaaDoorW.PrintLast Go.Proofs.YtllccnijipgncaaDoorW.PrintMore
attribute [local go_sem] max2_int min2_int max_two min_two max_three min_three max_four min_four   -- for this text's walks alone
set_option linter.unusedVariables false
set_option linter.unusedSimpArgs false

/-! ### partitaref18_word: function 42 -/
mutual
def partitaref18_word.j0 : Nat → ByteArray → Bool → Option (Bool)
 | 0, _, _ => none
 | k + 1, x0, x12 => if x12 = true then (some false) else (partitaref18_word.l0 k x0 0)
def partitaref18_word.l0 : Nat → ByteArray → Int → Option (Bool)
 | 0, _, _ => none
 | k + 1, x0, x3 => if x3 < (x0.size : Int) then (if 0 ≤ x3 then ((partitaref18_Letter.f (bt x0 x3)).bind fun t155 => (if t155 = true then (partitaref18_word.l0 k x0 (wrap64 (x3 + 1))) else ((partitaref18_Digit.f (bt x0 x3)).bind fun t156 => (if t156 = true then (partitaref18_word.l0 k x0 (wrap64 (x3 + 1))) else (if (bt x0 x3) = 35 then (partitaref18_word.l0 k x0 (wrap64 (x3 + 1))) else (if (bt x0 x3) = 95 then (partitaref18_word.l0 k x0 (wrap64 (x3 + 1))) else (some false))))))) else (none)) else (some true)
end
def partitaref18_word.f (k : Nat) (a0 : ByteArray) : Option (Bool) := if (a0.size : Int) = 0 then (partitaref18_word.j0 k a0 true) else (if 0 < (a0.size : Int) then ((partitaref18_Letter.f (bt a0 0)).bind fun t154 => (partitaref18_word.j0 k a0 (!t154))) else (none))
theorem partitaref18_word.mono_l : ∀ k, (∀ y0 y1, LeO (partitaref18_word.j0 k y0 y1) (partitaref18_word.j0 (k + 1) y0 y1)) ∧ (∀ y0 y1, LeO (partitaref18_word.l0 k y0 y1) (partitaref18_word.l0 (k + 1) y0 y1))
 | 0 => ⟨fun _ _ r h => by simp [partitaref18_word.j0] at h, fun _ _ r h => by simp [partitaref18_word.l0] at h⟩
 | k + 1 => by
  obtain ⟨ih0, ih1⟩ := partitaref18_word.mono_l k
  refine ⟨?_, ?_⟩
  · intro y0 y1
    unfold partitaref18_word.j0
    repeat' first
    | (with_reducible exact ih0 _ _)
    | (with_reducible exact ih1 _ _)
    | (with_reducible exact LeO.refl _)
    | (with_reducible exact LeO.none _)
    | (with_reducible refine LeO.ite ?_ ?_)
    | (with_reducible refine LeO.bind ?_ (fun _ => ?_))
    | exact ih0 _ _
    | exact ih1 _ _
    | exact LeO.none _
    | refine LeO.ite ?_ ?_
    | refine LeO.bind ?_ (fun _ => ?_)
  · intro y0 y1
    unfold partitaref18_word.l0
    repeat' first
    | (with_reducible exact ih0 _ _)
    | (with_reducible exact ih1 _ _)
    | (with_reducible exact LeO.refl _)
    | (with_reducible exact LeO.none _)
    | (with_reducible refine LeO.ite ?_ ?_)
    | (with_reducible refine LeO.bind ?_ (fun _ => ?_))
    | exact ih0 _ _
    | exact ih1 _ _
    | exact LeO.none _
    | refine LeO.ite ?_ ?_
    | refine LeO.bind ?_ (fun _ => ?_)
theorem partitaref18_word.mono : ∀ a0 k, LeO (partitaref18_word.f k a0) (partitaref18_word.f (k + 1) a0) := by
 intro a0 k
 obtain ⟨ih0, ih1⟩ := partitaref18_word.mono_l k
 unfold partitaref18_word.f
 repeat' first
  | (with_reducible exact ih0 _ _)
  | (with_reducible exact ih1 _ _)
  | (with_reducible exact LeO.refl _)
  | (with_reducible exact LeO.none _)
  | (with_reducible refine LeO.ite ?_ ?_)
  | (with_reducible refine LeO.bind ?_ (fun _ => ?_))
  | exact ih0 _ _
  | exact ih1 _ _
  | exact LeO.none _
  | refine LeO.ite ?_ ?_
  | refine LeO.bind ?_ (fun _ => ?_)
set_option maxHeartbeats 8000000 in
set_option maxRecDepth 100000 in
theorem partitaref18_word.calls (k : Nat) (a0 : ByteArray) (r : Bool) (w : World) (h : partitaref18_word.f k a0 = some r) :
 Calls Tryd.prog 42 #[.string a0] w fun e w' => e = .returned (.bool r) ∧ Drawn0 w w' := by
 have H : (if (a0.size : Int) = 0 then (partitaref18_word.j0 k a0 true) else (if 0 < (a0.size : Int) then ((partitaref18_Letter.f (bt a0 0)).bind fun t154 => (partitaref18_word.j0 k a0 (!t154))) else (none))) = some r := h
 clear h
 have HC2 := Aside0.mk H
 clear H
 go_enter Tryd.func42, Tryd.ntmps42
 go_upto_region 1 with (fail)
 go_cut [12] (fun v12 wc => ∃ (kq : Nat) (x12_1 : Bool), v12 = .bool x12_1 ∧ Aside0 (partitaref18_word.j0 kq a0 x12_1 = some r) ∧ Aside0 (kq ≤ k) ∧ Drawn0 w wc)
 case first =>
  have H := HC2.out
  clear HC2
  by_cases c3 : (a0.size : Int) = 0
  · rw [if_pos c3] at H
    have c3b0 : ((a0.size : Int) == 0) = true := beq_iff_eq.mpr c3
    have c3b1 : ((a0.size : Int) != 0) = false := bne_eq_false_iff_eq.mpr c3
    clear c3
    (first | rw [c3b0] | (simp only [i64_w, i32_w]; rw [c3b0]) | skip)
    have H' := Aside0.mk H
    clear H
    go_wp2
    go_meet
    case rel => exact ⟨_, (true), (by first | rfl | (simp; done) | (simp [*]; done) | (simp [wrap64]; done)), H', ⟨by first | omega | exact Nat.le_refl _⟩, by repeat (first | exact Drawn0.refl _ | apply Drawn0.step)⟩
  · rw [if_neg c3] at H
    have c3b0 : ((a0.size : Int) == 0) = false := beq_eq_false_iff_ne.mpr c3
    have c3b1 : ((a0.size : Int) != 0) = true := bne_iff_ne.mpr c3
    (first | rw [c3b0] | (simp only [i64_w, i32_w]; rw [c3b0]) | skip)
    by_cases c4 : 0 < (a0.size : Int)
    · rw [if_pos c4] at H
      have c4b0 : decide (0 < (a0.size : Int)) = true := decide_eq_true c4
      have c4b1 : decide (0 < a0.size) = true := decide_eq_true (by omega)
      clear c4
      replace H := Option.bind_eq_some_iff.mp H
      obtain ⟨t154, A60, H⟩ := H
      replace H : (partitaref18_word.j0 k a0 (!t154)) = some r := H
      have A6 := Aside0.mk A60
      clear A60
      have H' := Aside0.mk H
      clear H
      have p5 : 0 ≤ (0 : Int) := (by omega)
      have q5 : 0 < a0.size := (by have : (0 : Int) < (a0.size : Int) := of_decide_eq_true (by first | (with_reducible assumption) | assumption); omega)
      have hx5 : ∀ h : 0 < a0.size, ((a0[0]'h).toNat : Int) = bt a0 0 := bt_at a0 0
      clear p5
      have qi5 : (0 < (a0.size : Int)) = True := eq_true (of_decide_eq_true (by first | (with_reducible assumption) | assumption))
      replace q5 := eq_true q5
      go_wp2_with (first | (go_at_call 41; (with_reducible refine (partitaref18_Letter.calls (bt a0 0) t154 _ A6.out).mono ?_); rintro e w' ⟨rfl, ⟨nd, rfl⟩⟩))
      go_meet
      case rel => exact ⟨_, (!t154), (by first | rfl | (simp; done) | (simp [*]; done) | (simp [wrap64]; done)), H', ⟨by first | omega | exact Nat.le_refl _⟩, by repeat (first | exact Drawn0.refl _ | apply Drawn0.step)⟩
    · rw [if_neg c4] at H
      exact absurd H (by simp)
 case rest =>
  clear HC2
  try clear p2
  try clear c3
  try clear c3b0
  try clear c3b1
  try clear c4
  try clear c4b0
  try clear c4b1
  try clear p5
  try clear q5
  try clear hx5
  try clear qi5
  try clear p5
  try clear q5
  obtain ⟨kq, x12_1, rfl, HA, HJ1, ⟨mc1, rfl⟩⟩ := hcut
  cases kq with
  | zero => exact absurd HA.out (by simp [partitaref18_word.j0])
  | succ kj1 =>
   have H := HA.out
   clear HA
   simp only [partitaref18_word.j0] at H
   by_cases c7 : x12_1 = true
   · subst c7
     have H1 : (some false) = some r := by rw [if_pos rfl] at H; exact H
     clear H
     have H := H1
     clear H1
     obtain rfl := Option.some.inj H
     go_wp2
     go_ret
     exact ⟨by first | rfl | (simp; done) | (simp [*]; done), by repeat (first | exact Drawn0.refl _ | apply Drawn0.step)⟩
   · replace c7 := Bool.eq_false_iff.mpr c7
     subst c7
     have H1 : (partitaref18_word.l0 kj1 a0 0) = some r := by rw [if_neg (show ¬ (false = true) by decide)] at H; exact H
     clear H
     have H := H1
     clear H1
     have H' := Aside0.mk H
     clear H
     go_wp2
     go_loopg [3] kj1 (fun kq v3 w' => ∃ (x3_2 : Int), v3 = .int .i64 x3_2 ∧ Aside0 (partitaref18_word.l0 kq a0 x3_2 = some r) ∧ Aside0 (kq ≤ kj1) ∧ Drawn0 w w')
     case atStart => exact ⟨(0), (by first | rfl | (simp; done) | (simp [*]; done) | (simp [wrap64]; done)), H', ⟨Nat.le_refl _⟩, by repeat (first | exact Drawn0.refl _ | apply Drawn0.step)⟩
     case round =>
      clear H'
      try clear c1
      try clear p2
      try clear c3
      try clear c3b0
      try clear c3b1
      try clear c4
      try clear c4b0
      try clear c4b1
      try clear p5
      try clear q5
      try clear hx5
      try clear qi5
      try clear c7
      try clear p2
      try clear p5
      try clear q5
      obtain ⟨x3_2, rfl, HA, HK2, ⟨m2, rfl⟩⟩ := hrel
      cases gk with
      | zero => exact absurd HA.out (by simp [partitaref18_word.l0])
      | succ k2 =>
       have H := HA.out
       clear HA
       simp only [partitaref18_word.l0] at H
       by_cases c8 : x3_2 < (a0.size : Int)
       · rw [if_pos c8] at H
         have c8b0 : decide (x3_2 < (a0.size : Int)) = true := decide_eq_true c8
         clear c8
         by_cases c9 : 0 ≤ x3_2
         · rw [if_pos c9] at H
           have c9b0 : decide (0 ≤ x3_2) = true := decide_eq_true c9
           clear c9
           replace H := Option.bind_eq_some_iff.mp H
           obtain ⟨t155, A110, H⟩ := H
           replace H : (if t155 = true then (partitaref18_word.l0 k2 a0 (wrap64 (x3_2 + 1))) else ((partitaref18_Digit.f (bt a0 x3_2)).bind fun t156 => (if t156 = true then (partitaref18_word.l0 k2 a0 (wrap64 (x3_2 + 1))) else (if (bt a0 x3_2) = 35 then (partitaref18_word.l0 k2 a0 (wrap64 (x3_2 + 1))) else (if (bt a0 x3_2) = 95 then (partitaref18_word.l0 k2 a0 (wrap64 (x3_2 + 1))) else (some false)))))) = some r := H
           have A11 := Aside0.mk A110
           clear A110
           by_cases c12 : t155 = true
           · subst c12
             have H1 : (partitaref18_word.l0 k2 a0 (wrap64 (x3_2 + 1))) = some r := by rw [if_pos rfl] at H; exact H
             clear H
             have H := H1
             clear H1
             have H' := Aside0.mk H
             clear H
             have p10 : 0 ≤ (x3_2 : Int) := of_decide_eq_true (by first | (with_reducible assumption) | assumption)
             have q10 : x3_2 < (a0.size : Int) := of_decide_eq_true (by first | (with_reducible assumption) | assumption)
             have hx10 := bt_at a0 x3_2
             replace p10 := eq_true p10
             replace q10 := eq_true q10
             go_wp2_with (first | ((with_reducible refine gate_callee (f := 41) rfl ?_); refine goesL_ (some 22) rfl rfl Tryd.func41 (by kernel_rfl) rfl #[.int .u8 (bt a0 x3_2)] rfl (by (try simp only [List.map_toArray, List.map_cons, List.map_nil]); first | done | rfl | (simp only [List.length_drop, List.length_take]; rfl)) ?_; (with_reducible refine (partitaref18_Letter.calls (bt a0 x3_2) true _ A11.out).mono ?_); rintro e w' ⟨rfl, ⟨nd, rfl⟩⟩; refine ⟨_, rfl, ?_⟩))
             go_roundg k2
             case measure => have := HJ1.out; have := HK2.out; omega
             case rel => exact ⟨(wrap64 (x3_2 + 1)), (by first | rfl | (simp; done) | (simp [*]; done) | (simp [wrap64]; done)), H', ⟨by have := HJ1.out; have := HK2.out; omega⟩, by repeat (first | exact Drawn0.refl _ | apply Drawn0.step)⟩
           · replace c12 := Bool.eq_false_iff.mpr c12
             subst c12
             have H1 : ((partitaref18_Digit.f (bt a0 x3_2)).bind fun t156 => (if t156 = true then (partitaref18_word.l0 k2 a0 (wrap64 (x3_2 + 1))) else (if (bt a0 x3_2) = 35 then (partitaref18_word.l0 k2 a0 (wrap64 (x3_2 + 1))) else (if (bt a0 x3_2) = 95 then (partitaref18_word.l0 k2 a0 (wrap64 (x3_2 + 1))) else (some false))))) = some r := by rw [if_neg (show ¬ (false = true) by decide)] at H; exact H
             clear H
             have H := H1
             clear H1
             replace H := Option.bind_eq_some_iff.mp H
             obtain ⟨t156, A140, H⟩ := H
             replace H : (if t156 = true then (partitaref18_word.l0 k2 a0 (wrap64 (x3_2 + 1))) else (if (bt a0 x3_2) = 35 then (partitaref18_word.l0 k2 a0 (wrap64 (x3_2 + 1))) else (if (bt a0 x3_2) = 95 then (partitaref18_word.l0 k2 a0 (wrap64 (x3_2 + 1))) else (some false)))) = some r := H
             have A14 := Aside0.mk A140
             clear A140
             by_cases c15 : t156 = true
             · subst c15
               have H1 : (partitaref18_word.l0 k2 a0 (wrap64 (x3_2 + 1))) = some r := by rw [if_pos rfl] at H; exact H
               clear H
               have H := H1
               clear H1
               have H' := Aside0.mk H
               clear H
               have p10 : 0 ≤ (x3_2 : Int) := of_decide_eq_true (by first | (with_reducible assumption) | assumption)
               have q10 : x3_2 < (a0.size : Int) := of_decide_eq_true (by first | (with_reducible assumption) | assumption)
               have hx10 := bt_at a0 x3_2
               replace p10 := eq_true p10
               replace q10 := eq_true q10
               go_wp2_with (first | ((with_reducible refine gate_callee (f := 41) rfl ?_); refine goesL_ (some 22) rfl rfl Tryd.func41 (by kernel_rfl) rfl #[.int .u8 (bt a0 x3_2)] rfl (by (try simp only [List.map_toArray, List.map_cons, List.map_nil]); first | done | rfl | (simp only [List.length_drop, List.length_take]; rfl)) ?_; (with_reducible refine (partitaref18_Letter.calls (bt a0 x3_2) false _ A11.out).mono ?_); rintro e w' ⟨rfl, ⟨nd, rfl⟩⟩; refine ⟨_, rfl, ?_⟩; have p13 : 0 ≤ (x3_2 : Int) := of_decide_eq_true (by first | (with_reducible assumption) | assumption); have q13 : x3_2 < (a0.size : Int) := of_decide_eq_true (by first | (with_reducible assumption) | assumption); have hx13 := bt_at a0 x3_2; replace p13 := eq_true p13; replace q13 := eq_true q13) | (go_at_call 53; (with_reducible refine (partitaref18_Digit.calls (bt a0 x3_2) true _ A14.out).mono ?_); rintro e w' ⟨rfl, ⟨nd, rfl⟩⟩))
               go_roundg k2
               case measure => have := HJ1.out; have := HK2.out; omega
               case rel => exact ⟨(wrap64 (x3_2 + 1)), (by first | rfl | (simp; done) | (simp [*]; done) | (simp [wrap64]; done)), H', ⟨by have := HJ1.out; have := HK2.out; omega⟩, by repeat (first | exact Drawn0.refl _ | apply Drawn0.step)⟩
             · replace c15 := Bool.eq_false_iff.mpr c15
               subst c15
               have H1 : (if (bt a0 x3_2) = 35 then (partitaref18_word.l0 k2 a0 (wrap64 (x3_2 + 1))) else (if (bt a0 x3_2) = 95 then (partitaref18_word.l0 k2 a0 (wrap64 (x3_2 + 1))) else (some false))) = some r := by rw [if_neg (show ¬ (false = true) by decide)] at H; exact H
               clear H
               have H := H1
               clear H1
               by_cases c17 : (bt a0 x3_2) = 35
               · rw [if_pos c17] at H
                 have c17b0 : ((bt a0 x3_2) == 35) = true := beq_iff_eq.mpr c17
                 have c17b1 : ((bt a0 x3_2) != 35) = false := bne_eq_false_iff_eq.mpr c17
                 clear c17
                 have H' := Aside0.mk H
                 clear H
                 have p10 : 0 ≤ (x3_2 : Int) := of_decide_eq_true (by first | (with_reducible assumption) | assumption)
                 have q10 : x3_2 < (a0.size : Int) := of_decide_eq_true (by first | (with_reducible assumption) | assumption)
                 have hx10 := bt_at a0 x3_2
                 replace p10 := eq_true p10
                 replace q10 := eq_true q10
                 go_wp2_with (first | ((with_reducible refine gate_callee (f := 41) rfl ?_); refine goesL_ (some 22) rfl rfl Tryd.func41 (by kernel_rfl) rfl #[.int .u8 (bt a0 x3_2)] rfl (by (try simp only [List.map_toArray, List.map_cons, List.map_nil]); first | done | rfl | (simp only [List.length_drop, List.length_take]; rfl)) ?_; (with_reducible refine (partitaref18_Letter.calls (bt a0 x3_2) false _ A11.out).mono ?_); rintro e w' ⟨rfl, ⟨nd, rfl⟩⟩; refine ⟨_, rfl, ?_⟩; have p13 : 0 ≤ (x3_2 : Int) := of_decide_eq_true (by first | (with_reducible assumption) | assumption); have q13 : x3_2 < (a0.size : Int) := of_decide_eq_true (by first | (with_reducible assumption) | assumption); have hx13 := bt_at a0 x3_2; replace p13 := eq_true p13; replace q13 := eq_true q13) | (go_at_call 53; (with_reducible refine (partitaref18_Digit.calls (bt a0 x3_2) false _ A14.out).mono ?_); rintro e w' ⟨rfl, ⟨nd, rfl⟩⟩; have p16 : 0 ≤ (x3_2 : Int) := of_decide_eq_true (by first | (with_reducible assumption) | assumption); have q16 : x3_2 < (a0.size : Int) := of_decide_eq_true (by first | (with_reducible assumption) | assumption); have hx16 := bt_at a0 x3_2; replace p16 := eq_true p16; replace q16 := eq_true q16))
                 go_roundg k2
                 case measure => have := HJ1.out; have := HK2.out; omega
                 case rel => exact ⟨(wrap64 (x3_2 + 1)), (by first | rfl | (simp; done) | (simp [*]; done) | (simp [wrap64]; done)), H', ⟨by have := HJ1.out; have := HK2.out; omega⟩, by repeat (first | exact Drawn0.refl _ | apply Drawn0.step)⟩
               · rw [if_neg c17] at H
                 have c17b0 : ((bt a0 x3_2) == 35) = false := beq_eq_false_iff_ne.mpr c17
                 have c17b1 : ((bt a0 x3_2) != 35) = true := bne_iff_ne.mpr c17
                 by_cases c19 : (bt a0 x3_2) = 95
                 · rw [if_pos c19] at H
                   have c19b0 : ((bt a0 x3_2) == 95) = true := beq_iff_eq.mpr c19
                   have c19b1 : ((bt a0 x3_2) != 95) = false := bne_eq_false_iff_eq.mpr c19
                   clear c19
                   have H' := Aside0.mk H
                   clear H
                   have p10 : 0 ≤ (x3_2 : Int) := of_decide_eq_true (by first | (with_reducible assumption) | assumption)
                   have q10 : x3_2 < (a0.size : Int) := of_decide_eq_true (by first | (with_reducible assumption) | assumption)
                   have hx10 := bt_at a0 x3_2
                   replace p10 := eq_true p10
                   replace q10 := eq_true q10
                   go_wp2_with (first | ((with_reducible refine gate_callee (f := 41) rfl ?_); refine goesL_ (some 22) rfl rfl Tryd.func41 (by kernel_rfl) rfl #[.int .u8 (bt a0 x3_2)] rfl (by (try simp only [List.map_toArray, List.map_cons, List.map_nil]); first | done | rfl | (simp only [List.length_drop, List.length_take]; rfl)) ?_; (with_reducible refine (partitaref18_Letter.calls (bt a0 x3_2) false _ A11.out).mono ?_); rintro e w' ⟨rfl, ⟨nd, rfl⟩⟩; refine ⟨_, rfl, ?_⟩; have p13 : 0 ≤ (x3_2 : Int) := of_decide_eq_true (by first | (with_reducible assumption) | assumption); have q13 : x3_2 < (a0.size : Int) := of_decide_eq_true (by first | (with_reducible assumption) | assumption); have hx13 := bt_at a0 x3_2; replace p13 := eq_true p13; replace q13 := eq_true q13) | (go_at_call 53; (with_reducible refine (partitaref18_Digit.calls (bt a0 x3_2) false _ A14.out).mono ?_); rintro e w' ⟨rfl, ⟨nd, rfl⟩⟩; have p16 : 0 ≤ (x3_2 : Int) := of_decide_eq_true (by first | (with_reducible assumption) | assumption); have q16 : x3_2 < (a0.size : Int) := of_decide_eq_true (by first | (with_reducible assumption) | assumption); have hx16 := bt_at a0 x3_2; replace p16 := eq_true p16; replace q16 := eq_true q16; have p18 : 0 ≤ (x3_2 : Int) := of_decide_eq_true (by first | (with_reducible assumption) | assumption); have q18 : x3_2 < (a0.size : Int) := of_decide_eq_true (by first | (with_reducible assumption) | assumption); have hx18 := bt_at a0 x3_2; replace p18 := eq_true p18; replace q18 := eq_true q18))
                   go_roundg k2
                   case measure => have := HJ1.out; have := HK2.out; omega
                   case rel => exact ⟨(wrap64 (x3_2 + 1)), (by first | rfl | (simp; done) | (simp [*]; done) | (simp [wrap64]; done)), H', ⟨by have := HJ1.out; have := HK2.out; omega⟩, by repeat (first | exact Drawn0.refl _ | apply Drawn0.step)⟩
                 · rw [if_neg c19] at H
                   have c19b0 : ((bt a0 x3_2) == 95) = false := beq_eq_false_iff_ne.mpr c19
                   have c19b1 : ((bt a0 x3_2) != 95) = true := bne_iff_ne.mpr c19
                   obtain rfl := Option.some.inj H
                   have p10 : 0 ≤ (x3_2 : Int) := of_decide_eq_true (by first | (with_reducible assumption) | assumption)
                   have q10 : x3_2 < (a0.size : Int) := of_decide_eq_true (by first | (with_reducible assumption) | assumption)
                   have hx10 := bt_at a0 x3_2
                   replace p10 := eq_true p10
                   replace q10 := eq_true q10
                   go_wp2_with (first | ((with_reducible refine gate_callee (f := 41) rfl ?_); refine goesL_ (some 22) rfl rfl Tryd.func41 (by kernel_rfl) rfl #[.int .u8 (bt a0 x3_2)] rfl (by (try simp only [List.map_toArray, List.map_cons, List.map_nil]); first | done | rfl | (simp only [List.length_drop, List.length_take]; rfl)) ?_; (with_reducible refine (partitaref18_Letter.calls (bt a0 x3_2) false _ A11.out).mono ?_); rintro e w' ⟨rfl, ⟨nd, rfl⟩⟩; refine ⟨_, rfl, ?_⟩; have p13 : 0 ≤ (x3_2 : Int) := of_decide_eq_true (by first | (with_reducible assumption) | assumption); have q13 : x3_2 < (a0.size : Int) := of_decide_eq_true (by first | (with_reducible assumption) | assumption); have hx13 := bt_at a0 x3_2; replace p13 := eq_true p13; replace q13 := eq_true q13) | (go_at_call 53; (with_reducible refine (partitaref18_Digit.calls (bt a0 x3_2) false _ A14.out).mono ?_); rintro e w' ⟨rfl, ⟨nd, rfl⟩⟩; have p16 : 0 ≤ (x3_2 : Int) := of_decide_eq_true (by first | (with_reducible assumption) | assumption); have q16 : x3_2 < (a0.size : Int) := of_decide_eq_true (by first | (with_reducible assumption) | assumption); have hx16 := bt_at a0 x3_2; replace p16 := eq_true p16; replace q16 := eq_true q16; have p18 : 0 ≤ (x3_2 : Int) := of_decide_eq_true (by first | (with_reducible assumption) | assumption); have q18 : x3_2 < (a0.size : Int) := of_decide_eq_true (by first | (with_reducible assumption) | assumption); have hx18 := bt_at a0 x3_2; replace p18 := eq_true p18; replace q18 := eq_true q18))
                   go_ret
                   exact ⟨by first | rfl | (simp; done) | (simp [*]; done), by repeat (first | exact Drawn0.refl _ | apply Drawn0.step)⟩
         · rw [if_neg c9] at H
           exact absurd H (by simp)
       · rw [if_neg c8] at H
         have c8b0 : decide (x3_2 < (a0.size : Int)) = false := decide_eq_false c8
         clear c8
         obtain rfl := Option.some.inj H
         go_wp2
         go_ret
         exact ⟨by first | rfl | (simp; done) | (simp [*]; done), by repeat (first | exact Drawn0.refl _ | apply Drawn0.step)⟩

/-! ### partitaref18_digits: function 43 -/
def partitaref18_digits.l0 : Nat → ByteArray → Int → Option (Int)
 | 0, _, _ => none
 | k + 1, x0, x1 => if x1 < (x0.size : Int) then (if 0 ≤ x1 then ((partitaref18_Digit.f (bt x0 x1)).bind fun t157 => (if t157 = true then (partitaref18_digits.l0 k x0 (wrap64 (x1 + 1))) else (some x1))) else (none)) else (some x1)
def partitaref18_digits.f (k : Nat) (a0 : ByteArray) (a1 : Int) : Option (Int) := partitaref18_digits.l0 k a0 a1
theorem partitaref18_digits.mono_l : ∀ k, (∀ y0 y1, LeO (partitaref18_digits.l0 k y0 y1) (partitaref18_digits.l0 (k + 1) y0 y1))
 | 0 => fun _ _ r h => by simp [partitaref18_digits.l0] at h
 | k + 1 => by
  have ih0 := partitaref18_digits.mono_l k
  · intro y0 y1
    unfold partitaref18_digits.l0
    repeat' first
    | (with_reducible exact ih0 _ _)
    | (with_reducible exact LeO.refl _)
    | (with_reducible exact LeO.none _)
    | (with_reducible refine LeO.ite ?_ ?_)
    | (with_reducible refine LeO.bind ?_ (fun _ => ?_))
    | exact ih0 _ _
    | exact LeO.none _
    | refine LeO.ite ?_ ?_
    | refine LeO.bind ?_ (fun _ => ?_)
theorem partitaref18_digits.mono : ∀ a0 a1 k, LeO (partitaref18_digits.f k a0 a1) (partitaref18_digits.f (k + 1) a0 a1) := by
 intro a0 a1 k
 have ih0 := partitaref18_digits.mono_l k
 unfold partitaref18_digits.f
 repeat' first
  | (with_reducible exact ih0 _ _)
  | (with_reducible exact LeO.refl _)
  | (with_reducible exact LeO.none _)
  | (with_reducible refine LeO.ite ?_ ?_)
  | (with_reducible refine LeO.bind ?_ (fun _ => ?_))
  | exact ih0 _ _
  | exact LeO.none _
  | refine LeO.ite ?_ ?_
  | refine LeO.bind ?_ (fun _ => ?_)
set_option maxHeartbeats 8000000 in
set_option maxRecDepth 100000 in
theorem partitaref18_digits.calls (k : Nat) (a0 : ByteArray) (a1 : Int) (r : Int) (w : World) (h : partitaref18_digits.f k a0 a1 = some r) :
 Calls Tryd.prog 43 #[.string a0, .int .i64 a1] w fun e w' => e = .returned (.int .i64 r) ∧ Drawn0 w w' := by
 have H : (partitaref18_digits.l0 k a0 a1) = some r := h
 clear h
 have H' := Aside0.mk H
 clear H
 go_enter Tryd.func43, Tryd.ntmps43
 go_wp2
 go_loopg [1] k (fun kq v1 w' => ∃ (x1_1 : Int), v1 = .int .i64 x1_1 ∧ Aside0 (partitaref18_digits.l0 kq a0 x1_1 = some r) ∧ Aside0 (kq ≤ k) ∧ Drawn0 w w')
 case atStart => exact ⟨(a1), (by first | rfl | (simp; done) | (simp [*]; done) | (simp [wrap64]; done)), H', ⟨Nat.le_refl _⟩, by repeat (first | exact Drawn0.refl _ | apply Drawn0.step)⟩
 case round =>
  clear H'
  try clear p2
  obtain ⟨x1_1, rfl, HA, HK1, ⟨m1, rfl⟩⟩ := hrel
  cases gk with
  | zero => exact absurd HA.out (by simp [partitaref18_digits.l0])
  | succ k1 =>
   have H := HA.out
   clear HA
   simp only [partitaref18_digits.l0] at H
   by_cases c3 : x1_1 < (a0.size : Int)
   · rw [if_pos c3] at H
     have c3b0 : decide (x1_1 < (a0.size : Int)) = true := decide_eq_true c3
     clear c3
     by_cases c4 : 0 ≤ x1_1
     · rw [if_pos c4] at H
       have c4b0 : decide (0 ≤ x1_1) = true := decide_eq_true c4
       clear c4
       replace H := Option.bind_eq_some_iff.mp H
       obtain ⟨t157, A60, H⟩ := H
       replace H : (if t157 = true then (partitaref18_digits.l0 k1 a0 (wrap64 (x1_1 + 1))) else (some x1_1)) = some r := H
       have A6 := Aside0.mk A60
       clear A60
       by_cases c7 : t157 = true
       · subst c7
         have H1 : (partitaref18_digits.l0 k1 a0 (wrap64 (x1_1 + 1))) = some r := by rw [if_pos rfl] at H; exact H
         clear H
         have H := H1
         clear H1
         have H' := Aside0.mk H
         clear H
         have p5 : 0 ≤ (x1_1 : Int) := of_decide_eq_true (by first | (with_reducible assumption) | assumption)
         have q5 : x1_1 < (a0.size : Int) := of_decide_eq_true (by first | (with_reducible assumption) | assumption)
         have hx5 := bt_at a0 x1_1
         replace p5 := eq_true p5
         replace q5 := eq_true q5
         go_wp2_with (first | (go_at_call 53; (with_reducible refine (partitaref18_Digit.calls (bt a0 x1_1) true _ A6.out).mono ?_); rintro e w' ⟨rfl, ⟨nd, rfl⟩⟩))
         go_roundg k1
         case measure => have := HK1.out; omega
         case rel => exact ⟨(wrap64 (x1_1 + 1)), (by first | rfl | (simp; done) | (simp [*]; done) | (simp [wrap64]; done)), H', ⟨by have := HK1.out; omega⟩, by repeat (first | exact Drawn0.refl _ | apply Drawn0.step)⟩
       · replace c7 := Bool.eq_false_iff.mpr c7
         subst c7
         have H1 : (some x1_1) = some r := by rw [if_neg (show ¬ (false = true) by decide)] at H; exact H
         clear H
         have H := H1
         clear H1
         obtain rfl := Option.some.inj H
         have p5 : 0 ≤ (x1_1 : Int) := of_decide_eq_true (by first | (with_reducible assumption) | assumption)
         have q5 : x1_1 < (a0.size : Int) := of_decide_eq_true (by first | (with_reducible assumption) | assumption)
         have hx5 := bt_at a0 x1_1
         replace p5 := eq_true p5
         replace q5 := eq_true q5
         go_wp2_with (first | (go_at_call 53; (with_reducible refine (partitaref18_Digit.calls (bt a0 x1_1) false _ A6.out).mono ?_); rintro e w' ⟨rfl, ⟨nd, rfl⟩⟩))
         go_ret
         exact ⟨by first | rfl | (simp; done) | (simp [*]; done), by repeat (first | exact Drawn0.refl _ | apply Drawn0.step)⟩
     · rw [if_neg c4] at H
       exact absurd H (by simp)
   · rw [if_neg c3] at H
     have c3b0 : decide (x1_1 < (a0.size : Int)) = false := decide_eq_false c3
     clear c3
     obtain rfl := Option.some.inj H
     go_wp2
     go_ret
     exact ⟨by first | rfl | (simp; done) | (simp [*]; done), by repeat (first | exact Drawn0.refl _ | apply Drawn0.step)⟩

/-! ### partitaref18_number: function 44 -/
def partitaref18_number.f (k : Nat) (a0 : ByteArray) : Option (Bool) := if a0.toList = ([48] : List UInt8) then (some true) else (if (a0.size : Int) > 0 then (if 0 < (a0.size : Int) then (if (bt a0 0) = 45 then (if 1 < (a0.size : Int) then (if (bt a0 1) = 48 then (some false) else ((partitaref18_digits.f k a0 1).bind fun t158 => (some (t158 == (a0.size : Int))))) else (some false)) else (if (bt a0 0) = 48 then (some false) else ((partitaref18_digits.f k a0 0).bind fun t159 => (some (t159 == (a0.size : Int)))))) else (none)) else (if 0 < (a0.size : Int) then (if (bt a0 0) = 48 then (some false) else ((partitaref18_digits.f k a0 0).bind fun t160 => (some (t160 == (a0.size : Int))))) else (some false)))
theorem partitaref18_number.mono : ∀ a0 k, LeO (partitaref18_number.f k a0) (partitaref18_number.f (k + 1) a0) := by
 intro a0 k
 unfold partitaref18_number.f
 repeat' first
  | (with_reducible exact partitaref18_digits.mono _ _ _)
  | (with_reducible exact LeO.refl _)
  | (with_reducible exact LeO.none _)
  | (with_reducible refine LeO.ite ?_ ?_)
  | (with_reducible refine LeO.bind ?_ (fun _ => ?_))
  | exact partitaref18_digits.mono _ _ _
  | exact LeO.none _
  | refine LeO.ite ?_ ?_
  | refine LeO.bind ?_ (fun _ => ?_)
set_option maxHeartbeats 8000000 in
set_option maxRecDepth 100000 in
theorem partitaref18_number.calls (k : Nat) (a0 : ByteArray) (r : Bool) (w : World) (h : partitaref18_number.f k a0 = some r) :
 Calls Tryd.prog 44 #[.string a0] w fun e w' => e = .returned (.bool r) ∧ Drawn0 w w' := by
 have H : (if a0.toList = ([48] : List UInt8) then (some true) else (if (a0.size : Int) > 0 then (if 0 < (a0.size : Int) then (if (bt a0 0) = 45 then (if 1 < (a0.size : Int) then (if (bt a0 1) = 48 then (some false) else ((partitaref18_digits.f k a0 1).bind fun t158 => (some (t158 == (a0.size : Int))))) else (some false)) else (if (bt a0 0) = 48 then (some false) else ((partitaref18_digits.f k a0 0).bind fun t159 => (some (t159 == (a0.size : Int)))))) else (none)) else (if 0 < (a0.size : Int) then (if (bt a0 0) = 48 then (some false) else ((partitaref18_digits.f k a0 0).bind fun t160 => (some (t160 == (a0.size : Int))))) else (some false)))) = some r := h
 clear h
 by_cases c2 : a0.toList = ([48] : List UInt8)
 · rw [if_pos c2] at H
   have c2b0 : (a0.toList == ([48] : List UInt8)) = true := beq_iff_eq.mpr c2
   have c2b1 : (a0.toList != ([48] : List UInt8)) = false := bne_eq_false_iff_eq.mpr c2
   clear c2
   obtain rfl := Option.some.inj H
   go_enter Tryd.func44, Tryd.ntmps44
   go_wp2
   go_ret
   exact ⟨by first | rfl | (simp; done) | (simp [*]; done), by repeat (first | exact Drawn0.refl _ | apply Drawn0.step)⟩
 · rw [if_neg c2] at H
   have c2b0 : (a0.toList == ([48] : List UInt8)) = false := beq_eq_false_iff_ne.mpr c2
   have c2b1 : (a0.toList != ([48] : List UInt8)) = true := bne_iff_ne.mpr c2
   by_cases c3 : (a0.size : Int) > 0
   · rw [if_pos c3] at H
     have c3b0 : decide (0 < (a0.size : Int)) = true := decide_eq_true c3
     have c3b1 : decide (0 < a0.size) = true := decide_eq_true (by omega)
     clear c3
     by_cases c4 : 0 < (a0.size : Int)
     · rw [if_pos c4] at H
       have c4b0 : decide (0 < (a0.size : Int)) = true := decide_eq_true c4
       have c4b1 : decide (0 < a0.size) = true := decide_eq_true (by omega)
       clear c4
       by_cases c6 : (bt a0 0) = 45
       · rw [if_pos c6] at H
         have c6b0 : ((bt a0 0) == 45) = true := beq_iff_eq.mpr c6
         have c6b1 : ((bt a0 0) != 45) = false := bne_eq_false_iff_eq.mpr c6
         clear c6
         by_cases c7 : 1 < (a0.size : Int)
         · rw [if_pos c7] at H
           have c7b0 : decide (1 < (a0.size : Int)) = true := decide_eq_true c7
           have c7b1 : decide (1 < a0.size) = true := decide_eq_true (by omega)
           clear c7
           by_cases c9 : (bt a0 1) = 48
           · rw [if_pos c9] at H
             have c9b0 : ((bt a0 1) == 48) = true := beq_iff_eq.mpr c9
             have c9b1 : ((bt a0 1) != 48) = false := bne_eq_false_iff_eq.mpr c9
             clear c9
             obtain rfl := Option.some.inj H
             have p5 : 0 ≤ (0 : Int) := (by omega)
             have q5 : 0 < a0.size := (by have : (0 : Int) < (a0.size : Int) := of_decide_eq_true (by first | (with_reducible assumption) | assumption); omega)
             have hx5 : ∀ h : 0 < a0.size, ((a0[0]'h).toNat : Int) = bt a0 0 := bt_at a0 0
             clear p5
             have qi5 : (0 < (a0.size : Int)) = True := eq_true (of_decide_eq_true (by first | (with_reducible assumption) | assumption))
             replace q5 := eq_true q5
             have p8 : 0 ≤ (1 : Int) := (by omega)
             have q8 : 1 < a0.size := (by have : (1 : Int) < (a0.size : Int) := of_decide_eq_true (by first | (with_reducible assumption) | assumption); omega)
             have hx8 : ∀ h : 1 < a0.size, ((a0[1]'h).toNat : Int) = bt a0 1 := bt_at a0 1
             clear p8
             have qi8 : (1 < (a0.size : Int)) = True := eq_true (of_decide_eq_true (by first | (with_reducible assumption) | assumption))
             replace q8 := eq_true q8
             go_enter Tryd.func44, Tryd.ntmps44
             go_wp2
             go_ret
             exact ⟨by first | rfl | (simp; done) | (simp [*]; done), by repeat (first | exact Drawn0.refl _ | apply Drawn0.step)⟩
           · rw [if_neg c9] at H
             have c9b0 : ((bt a0 1) == 48) = false := beq_eq_false_iff_ne.mpr c9
             have c9b1 : ((bt a0 1) != 48) = true := bne_iff_ne.mpr c9
             replace H := Option.bind_eq_some_iff.mp H
             obtain ⟨t158, A100, H⟩ := H
             replace H : (some (t158 == (a0.size : Int))) = some r := H
             have A10 := Aside0.mk A100
             clear A100
             obtain rfl := Option.some.inj H
             have p5 : 0 ≤ (0 : Int) := (by omega)
             have q5 : 0 < a0.size := (by have : (0 : Int) < (a0.size : Int) := of_decide_eq_true (by first | (with_reducible assumption) | assumption); omega)
             have hx5 : ∀ h : 0 < a0.size, ((a0[0]'h).toNat : Int) = bt a0 0 := bt_at a0 0
             clear p5
             have qi5 : (0 < (a0.size : Int)) = True := eq_true (of_decide_eq_true (by first | (with_reducible assumption) | assumption))
             replace q5 := eq_true q5
             have p8 : 0 ≤ (1 : Int) := (by omega)
             have q8 : 1 < a0.size := (by have : (1 : Int) < (a0.size : Int) := of_decide_eq_true (by first | (with_reducible assumption) | assumption); omega)
             have hx8 : ∀ h : 1 < a0.size, ((a0[1]'h).toNat : Int) = bt a0 1 := bt_at a0 1
             clear p8
             have qi8 : (1 < (a0.size : Int)) = True := eq_true (of_decide_eq_true (by first | (with_reducible assumption) | assumption))
             replace q8 := eq_true q8
             go_enter Tryd.func44, Tryd.ntmps44
             go_wp2_with (first | (go_at_call 43; (with_reducible refine (partitaref18_digits.calls k a0 1 t158 _ A10.out).mono ?_); rintro e w' ⟨rfl, ⟨nd, rfl⟩⟩))
             go_ret
             exact ⟨by first | rfl | (simp; done) | (simp [*]; done), by repeat (first | exact Drawn0.refl _ | apply Drawn0.step)⟩
         · rw [if_neg c7] at H
           have c7b0 : decide (1 < (a0.size : Int)) = false := decide_eq_false c7
           have c7b1 : decide (1 < a0.size) = false := decide_eq_false (by omega)
           clear c7
           obtain rfl := Option.some.inj H
           have p5 : 0 ≤ (0 : Int) := (by omega)
           have q5 : 0 < a0.size := (by have : (0 : Int) < (a0.size : Int) := of_decide_eq_true (by first | (with_reducible assumption) | assumption); omega)
           have hx5 : ∀ h : 0 < a0.size, ((a0[0]'h).toNat : Int) = bt a0 0 := bt_at a0 0
           clear p5
           have qi5 : (0 < (a0.size : Int)) = True := eq_true (of_decide_eq_true (by first | (with_reducible assumption) | assumption))
           replace q5 := eq_true q5
           go_enter Tryd.func44, Tryd.ntmps44
           go_wp2
           go_ret
           exact ⟨by first | rfl | (simp; done) | (simp [*]; done), by repeat (first | exact Drawn0.refl _ | apply Drawn0.step)⟩
       · rw [if_neg c6] at H
         have c6b0 : ((bt a0 0) == 45) = false := beq_eq_false_iff_ne.mpr c6
         have c6b1 : ((bt a0 0) != 45) = true := bne_iff_ne.mpr c6
         by_cases c12 : (bt a0 0) = 48
         · rw [if_pos c12] at H
           have c12b0 : ((bt a0 0) == 48) = true := beq_iff_eq.mpr c12
           have c12b1 : ((bt a0 0) != 48) = false := bne_eq_false_iff_eq.mpr c12
           clear c12
           obtain rfl := Option.some.inj H
           have p5 : 0 ≤ (0 : Int) := (by omega)
           have q5 : 0 < a0.size := (by have : (0 : Int) < (a0.size : Int) := of_decide_eq_true (by first | (with_reducible assumption) | assumption); omega)
           have hx5 : ∀ h : 0 < a0.size, ((a0[0]'h).toNat : Int) = bt a0 0 := bt_at a0 0
           clear p5
           have qi5 : (0 < (a0.size : Int)) = True := eq_true (of_decide_eq_true (by first | (with_reducible assumption) | assumption))
           replace q5 := eq_true q5
           have p11 : 0 ≤ (0 : Int) := (by omega)
           have q11 : 0 < a0.size := (by have : (0 : Int) < (a0.size : Int) := of_decide_eq_true (by first | (with_reducible assumption) | assumption); omega)
           have hx11 : ∀ h : 0 < a0.size, ((a0[0]'h).toNat : Int) = bt a0 0 := bt_at a0 0
           clear p11
           have qi11 : (0 < (a0.size : Int)) = True := eq_true (of_decide_eq_true (by first | (with_reducible assumption) | assumption))
           replace q11 := eq_true q11
           go_enter Tryd.func44, Tryd.ntmps44
           go_wp2
           go_ret
           exact ⟨by first | rfl | (simp; done) | (simp [*]; done), by repeat (first | exact Drawn0.refl _ | apply Drawn0.step)⟩
         · rw [if_neg c12] at H
           have c12b0 : ((bt a0 0) == 48) = false := beq_eq_false_iff_ne.mpr c12
           have c12b1 : ((bt a0 0) != 48) = true := bne_iff_ne.mpr c12
           replace H := Option.bind_eq_some_iff.mp H
           obtain ⟨t159, A130, H⟩ := H
           replace H : (some (t159 == (a0.size : Int))) = some r := H
           have A13 := Aside0.mk A130
           clear A130
           obtain rfl := Option.some.inj H
           have p5 : 0 ≤ (0 : Int) := (by omega)
           have q5 : 0 < a0.size := (by have : (0 : Int) < (a0.size : Int) := of_decide_eq_true (by first | (with_reducible assumption) | assumption); omega)
           have hx5 : ∀ h : 0 < a0.size, ((a0[0]'h).toNat : Int) = bt a0 0 := bt_at a0 0
           clear p5
           have qi5 : (0 < (a0.size : Int)) = True := eq_true (of_decide_eq_true (by first | (with_reducible assumption) | assumption))
           replace q5 := eq_true q5
           have p11 : 0 ≤ (0 : Int) := (by omega)
           have q11 : 0 < a0.size := (by have : (0 : Int) < (a0.size : Int) := of_decide_eq_true (by first | (with_reducible assumption) | assumption); omega)
           have hx11 : ∀ h : 0 < a0.size, ((a0[0]'h).toNat : Int) = bt a0 0 := bt_at a0 0
           clear p11
           have qi11 : (0 < (a0.size : Int)) = True := eq_true (of_decide_eq_true (by first | (with_reducible assumption) | assumption))
           replace q11 := eq_true q11
           go_enter Tryd.func44, Tryd.ntmps44
           go_wp2_with (first | (go_at_call 43; (with_reducible refine (partitaref18_digits.calls k a0 0 t159 _ A13.out).mono ?_); rintro e w' ⟨rfl, ⟨nd, rfl⟩⟩))
           go_ret
           exact ⟨by first | rfl | (simp; done) | (simp [*]; done), by repeat (first | exact Drawn0.refl _ | apply Drawn0.step)⟩
     · rw [if_neg c4] at H
       exact absurd H (by simp)
   · rw [if_neg c3] at H
     have c3b0 : decide (0 < (a0.size : Int)) = false := decide_eq_false c3
     have c3b1 : decide (0 < a0.size) = false := decide_eq_false (by omega)
     clear c3
     by_cases c14 : 0 < (a0.size : Int)
     · exact absurd c14 (of_decide_eq_false c3b0)
     · rw [if_neg c14] at H
       have c14b0 : decide (0 < (a0.size : Int)) = false := decide_eq_false c14
       have c14b1 : decide (0 < a0.size) = false := decide_eq_false (by omega)
       clear c14
       obtain rfl := Option.some.inj H
       go_enter Tryd.func44, Tryd.ntmps44
       go_wp2
       go_ret
       exact ⟨by first | rfl | (simp; done) | (simp [*]; done), by repeat (first | exact Drawn0.refl _ | apply Drawn0.step)⟩

/-! ### partitaref18_sign: function 45 -/
def partitaref18_sign.f (a0 : Int) : Option (Bool) := if a0 < 33 then (some false) else (if a0 > 126 then (some false) else ((partitaref18_Letter.f a0).bind fun t161 => (if t161 = true then (some false) else ((partitaref18_Digit.f a0).bind fun t162 => (if t162 = true then (some false) else (if a0 = 34 then (some false) else (if a0 = 35 then (some false) else (if a0 = 92 then (some false) else (some (a0 != 95))))))))))
set_option maxHeartbeats 8000000 in
set_option maxRecDepth 100000 in
theorem partitaref18_sign.calls (a0 : Int) (r : Bool) (w : World) (h : partitaref18_sign.f a0 = some r) :
 Calls Tryd.prog 45 #[.int .u8 a0] w fun e w' => e = .returned (.bool r) ∧ Drawn0 w w' := by
 have H : (if a0 < 33 then (some false) else (if a0 > 126 then (some false) else ((partitaref18_Letter.f a0).bind fun t161 => (if t161 = true then (some false) else ((partitaref18_Digit.f a0).bind fun t162 => (if t162 = true then (some false) else (if a0 = 34 then (some false) else (if a0 = 35 then (some false) else (if a0 = 92 then (some false) else (some (a0 != 95))))))))))) = some r := h
 clear h
 by_cases c2 : a0 < 33
 · rw [if_pos c2] at H
   have c2b0 : decide (a0 < 33) = true := decide_eq_true c2
   clear c2
   obtain rfl := Option.some.inj H
   go_enter Tryd.func45, Tryd.ntmps45
   go_wp2
   go_ret
   exact ⟨by first | rfl | (simp; done) | (simp [*]; done), by repeat (first | exact Drawn0.refl _ | apply Drawn0.step)⟩
 · rw [if_neg c2] at H
   have c2b0 : decide (a0 < 33) = false := decide_eq_false c2
   clear c2
   by_cases c3 : a0 > 126
   · rw [if_pos c3] at H
     have c3b0 : decide (126 < a0) = true := decide_eq_true c3
     clear c3
     obtain rfl := Option.some.inj H
     go_enter Tryd.func45, Tryd.ntmps45
     go_wp2
     go_ret
     exact ⟨by first | rfl | (simp; done) | (simp [*]; done), by repeat (first | exact Drawn0.refl _ | apply Drawn0.step)⟩
   · rw [if_neg c3] at H
     have c3b0 : decide (126 < a0) = false := decide_eq_false c3
     clear c3
     replace H := Option.bind_eq_some_iff.mp H
     obtain ⟨t161, A40, H⟩ := H
     replace H : (if t161 = true then (some false) else ((partitaref18_Digit.f a0).bind fun t162 => (if t162 = true then (some false) else (if a0 = 34 then (some false) else (if a0 = 35 then (some false) else (if a0 = 92 then (some false) else (some (a0 != 95)))))))) = some r := H
     have A4 := Aside0.mk A40
     clear A40
     by_cases c5 : t161 = true
     · subst c5
       have H1 : (some false) = some r := by rw [if_pos rfl] at H; exact H
       clear H
       have H := H1
       clear H1
       obtain rfl := Option.some.inj H
       go_enter Tryd.func45, Tryd.ntmps45
       go_wp2_with (first | (go_at_call 41; (with_reducible refine (partitaref18_Letter.calls a0 true _ A4.out).mono ?_); rintro e w' ⟨rfl, ⟨nd, rfl⟩⟩))
       go_ret
       exact ⟨by first | rfl | (simp; done) | (simp [*]; done), by repeat (first | exact Drawn0.refl _ | apply Drawn0.step)⟩
     · replace c5 := Bool.eq_false_iff.mpr c5
       subst c5
       have H1 : ((partitaref18_Digit.f a0).bind fun t162 => (if t162 = true then (some false) else (if a0 = 34 then (some false) else (if a0 = 35 then (some false) else (if a0 = 92 then (some false) else (some (a0 != 95))))))) = some r := by rw [if_neg (show ¬ (false = true) by decide)] at H; exact H
       clear H
       have H := H1
       clear H1
       replace H := Option.bind_eq_some_iff.mp H
       obtain ⟨t162, A60, H⟩ := H
       replace H : (if t162 = true then (some false) else (if a0 = 34 then (some false) else (if a0 = 35 then (some false) else (if a0 = 92 then (some false) else (some (a0 != 95)))))) = some r := H
       have A6 := Aside0.mk A60
       clear A60
       by_cases c7 : t162 = true
       · subst c7
         have H1 : (some false) = some r := by rw [if_pos rfl] at H; exact H
         clear H
         have H := H1
         clear H1
         obtain rfl := Option.some.inj H
         go_enter Tryd.func45, Tryd.ntmps45
         go_wp2_with (first | (go_at_call 41; (with_reducible refine (partitaref18_Letter.calls a0 false _ A4.out).mono ?_); rintro e w' ⟨rfl, ⟨nd, rfl⟩⟩) | (go_at_call 53; (with_reducible refine (partitaref18_Digit.calls a0 true _ A6.out).mono ?_); rintro e w' ⟨rfl, ⟨nd, rfl⟩⟩))
         go_ret
         exact ⟨by first | rfl | (simp; done) | (simp [*]; done), by repeat (first | exact Drawn0.refl _ | apply Drawn0.step)⟩
       · replace c7 := Bool.eq_false_iff.mpr c7
         subst c7
         have H1 : (if a0 = 34 then (some false) else (if a0 = 35 then (some false) else (if a0 = 92 then (some false) else (some (a0 != 95))))) = some r := by rw [if_neg (show ¬ (false = true) by decide)] at H; exact H
         clear H
         have H := H1
         clear H1
         by_cases c8 : a0 = 34
         · rw [if_pos c8] at H
           have c8b0 : (a0 == 34) = true := beq_iff_eq.mpr c8
           have c8b1 : (a0 != 34) = false := bne_eq_false_iff_eq.mpr c8
           clear c8
           obtain rfl := Option.some.inj H
           go_enter Tryd.func45, Tryd.ntmps45
           go_wp2_with (first | (go_at_call 41; (with_reducible refine (partitaref18_Letter.calls a0 false _ A4.out).mono ?_); rintro e w' ⟨rfl, ⟨nd, rfl⟩⟩) | (go_at_call 53; (with_reducible refine (partitaref18_Digit.calls a0 false _ A6.out).mono ?_); rintro e w' ⟨rfl, ⟨nd, rfl⟩⟩))
           go_ret
           exact ⟨by first | rfl | (simp; done) | (simp [*]; done), by repeat (first | exact Drawn0.refl _ | apply Drawn0.step)⟩
         · rw [if_neg c8] at H
           have c8b0 : (a0 == 34) = false := beq_eq_false_iff_ne.mpr c8
           have c8b1 : (a0 != 34) = true := bne_iff_ne.mpr c8
           by_cases c9 : a0 = 35
           · rw [if_pos c9] at H
             have c9b0 : (a0 == 35) = true := beq_iff_eq.mpr c9
             have c9b1 : (a0 != 35) = false := bne_eq_false_iff_eq.mpr c9
             clear c9
             obtain rfl := Option.some.inj H
             go_enter Tryd.func45, Tryd.ntmps45
             go_wp2_with (first | (go_at_call 41; (with_reducible refine (partitaref18_Letter.calls a0 false _ A4.out).mono ?_); rintro e w' ⟨rfl, ⟨nd, rfl⟩⟩) | (go_at_call 53; (with_reducible refine (partitaref18_Digit.calls a0 false _ A6.out).mono ?_); rintro e w' ⟨rfl, ⟨nd, rfl⟩⟩))
             go_ret
             exact ⟨by first | rfl | (simp; done) | (simp [*]; done), by repeat (first | exact Drawn0.refl _ | apply Drawn0.step)⟩
           · rw [if_neg c9] at H
             have c9b0 : (a0 == 35) = false := beq_eq_false_iff_ne.mpr c9
             have c9b1 : (a0 != 35) = true := bne_iff_ne.mpr c9
             by_cases c10 : a0 = 92
             · rw [if_pos c10] at H
               have c10b0 : (a0 == 92) = true := beq_iff_eq.mpr c10
               have c10b1 : (a0 != 92) = false := bne_eq_false_iff_eq.mpr c10
               clear c10
               obtain rfl := Option.some.inj H
               go_enter Tryd.func45, Tryd.ntmps45
               go_wp2_with (first | (go_at_call 41; (with_reducible refine (partitaref18_Letter.calls a0 false _ A4.out).mono ?_); rintro e w' ⟨rfl, ⟨nd, rfl⟩⟩) | (go_at_call 53; (with_reducible refine (partitaref18_Digit.calls a0 false _ A6.out).mono ?_); rintro e w' ⟨rfl, ⟨nd, rfl⟩⟩))
               go_ret
               exact ⟨by first | rfl | (simp; done) | (simp [*]; done), by repeat (first | exact Drawn0.refl _ | apply Drawn0.step)⟩
             · rw [if_neg c10] at H
               have c10b0 : (a0 == 92) = false := beq_eq_false_iff_ne.mpr c10
               have c10b1 : (a0 != 92) = true := bne_iff_ne.mpr c10
               obtain rfl := Option.some.inj H
               go_enter Tryd.func45, Tryd.ntmps45
               go_wp2_with (first | (go_at_call 41; (with_reducible refine (partitaref18_Letter.calls a0 false _ A4.out).mono ?_); rintro e w' ⟨rfl, ⟨nd, rfl⟩⟩) | (go_at_call 53; (with_reducible refine (partitaref18_Digit.calls a0 false _ A6.out).mono ?_); rintro e w' ⟨rfl, ⟨nd, rfl⟩⟩))
               go_ret
               exact ⟨by first | rfl | (simp; done) | (simp [*]; done), by repeat (first | exact Drawn0.refl _ | apply Drawn0.step)⟩

end Go.Proofs.YtllccnijipgncaaDoor.Q
