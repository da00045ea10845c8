-- Written by a program of this session (myprint.py), function by function.
import Derived.Test.YtbpcilbplgbonaaDoorQ0
namespace Go.Proofs.YtbpcilbplgbonaaDoor.Q
open Go.RowKit Go.Proofs.YtbpcilbplgbonaaDoorW.PrintWords Go.Proofs.YtbpcilbplgbonaaDoorW.PrintLast Go.Proofs.YtbpcilbplgbonaaDoorW.PrintMore
attribute [local go_sem] max2_int min2_int max_two min_two max_three min_three max_four min_four   -- for this text's walks alone
set_option linter.unusedVariables false
set_option linter.unusedSimpArgs false

/-! ### partitaref26_lay: function 23 -/
def partitaref26_lay.l0 : Nat → List Int → Int → Int → Int → Option (Bool)
 | 0, _, _, _, _ => none
 | k + 1, x0, x1, x2, x7 => if x7 < (x0.length : Int) then (if 0 ≤ x7 then (if (rd x0 x7) < 1 then (some false) else (if (rd x0 x7) > 100000 then (some false) else (partitaref26_lay.l0 k x0 x1 x2 (wrap64 (x7 + 1))))) else (none)) else (if (x0.length : Int) ≤ 100 then (if x1 ≥ 1 then (if x1 ≤ 100000 then (if x2 ≥ 0 then (some (decide (x2 ≤ 100000))) else (some false)) else (some false)) else (some false)) else (some false))
def partitaref26_lay.f (k : Nat) (l0 : List Int) (a1 : Int) (a2 : Int) : Option (Bool) := partitaref26_lay.l0 k l0 a1 a2 0
theorem partitaref26_lay.mono_l : ∀ k, (∀ y0 y1 y2 y3, LeO (partitaref26_lay.l0 k y0 y1 y2 y3) (partitaref26_lay.l0 (k + 1) y0 y1 y2 y3))
 | 0 => fun _ _ _ _ r h => by simp [partitaref26_lay.l0] at h
 | k + 1 => by
  have ih0 := partitaref26_lay.mono_l k
  · intro y0 y1 y2 y3
    unfold partitaref26_lay.l0
    repeat' first
    | (with_reducible exact ih0 _ _ _ _)
    | (with_reducible exact LeO.refl _)
    | (with_reducible exact LeO.none _)
    | (with_reducible refine LeO.ite ?_ ?_)
    | (with_reducible refine LeO.bind ?_ (fun _ => ?_))
    | exact ih0 _ _ _ _
    | exact LeO.none _
    | refine LeO.ite ?_ ?_
    | refine LeO.bind ?_ (fun _ => ?_)
theorem partitaref26_lay.mono : ∀ a0 a1 a2 k, LeO (partitaref26_lay.f k a0 a1 a2) (partitaref26_lay.f (k + 1) a0 a1 a2) := by
 intro a0 a1 a2 k
 have ih0 := partitaref26_lay.mono_l k
 unfold partitaref26_lay.f
 repeat' first
  | (with_reducible exact ih0 _ _ _ _)
  | (with_reducible exact LeO.refl _)
  | (with_reducible exact LeO.none _)
  | (with_reducible refine LeO.ite ?_ ?_)
  | (with_reducible refine LeO.bind ?_ (fun _ => ?_))
  | exact ih0 _ _ _ _
  | exact LeO.none _
  | refine LeO.ite ?_ ?_
  | refine LeO.bind ?_ (fun _ => ?_)
set_option maxHeartbeats 8000000 in
set_option maxRecDepth 100000 in
theorem partitaref26_lay.calls (k : Nat) (A0 : Option Addr) (c0 : Nat) (l0 : List Int) (a1 : Int) (a2 : Int) (r : Bool) (w : World) (hr0 : Kd.C (Kd.int .i64) w A0 l0.length l0) (hc0 : l0.length ≤ c0) (h : partitaref26_lay.f k l0 a1 a2 = some r) :
 Calls Tryd.prog 23 #[.slice A0 l0.length c0, .int .i64 a1, .int .i64 a2] w fun e w' => e = .returned (.bool r) ∧ Drawn0 w w' := by
 have HR0 := Aside0.mk hr0
 have HC0 := Aside0.mk hc0
 clear hr0 hc0
 have H : (partitaref26_lay.l0 k l0 a1 a2 0) = some r := h
 clear h
 have H' := Aside0.mk H
 clear H
 go_enter Tryd.func23, Tryd.ntmps23
 go_wp2
 go_loopg [7] k (fun kq v7 w' => ∃ (x7_1 : Int), v7 = .int .i64 x7_1 ∧ Aside0 (partitaref26_lay.l0 kq l0 a1 a2 x7_1 = some r) ∧ Aside0 (kq ≤ k) ∧ Drawn0 w w')
 case atStart => exact ⟨(0), (by first | rfl | (simp; done) | (simp [*]; done) | (simp [wrap64]; done)), H', ⟨Nat.le_refl _⟩, by repeat (first | exact Drawn0.refl _ | apply Drawn0.step)⟩
 case round =>
  clear H'
  try clear c2
  try clear p2
  obtain ⟨x7_1, rfl, HA, HK1, ⟨m1, rfl⟩⟩ := hrel
  cases gk with
  | zero => exact absurd HA.out (by simp [partitaref26_lay.l0])
  | succ k1 =>
   have H := HA.out
   clear HA
   simp only [partitaref26_lay.l0] at H
   by_cases c4 : x7_1 < (l0.length : Int)
   · rw [if_pos c4] at H
     have c4b0 : decide (x7_1 < (l0.length : Int)) = true := decide_eq_true c4
     clear c4
     by_cases c5 : 0 ≤ x7_1
     · rw [if_pos c5] at H
       have c5b0 : decide (0 ≤ x7_1) = true := decide_eq_true c5
       clear c5
       by_cases c6 : (rd l0 x7_1) < 1
       · rw [if_pos c6] at H
         have c6b0 : decide ((rd l0 x7_1) < 1) = true := decide_eq_true c6
         clear c6
         obtain rfl := Option.some.inj H
         have p183 : 0 ≤ (x7_1 : Int) := of_decide_eq_true (by first | (with_reducible assumption) | assumption)
         have q183 : x7_1 < (l0.length : Int) := of_decide_eq_true (by first | (with_reducible assumption) | assumption)
         obtain ⟨ad183, e183, hx183_0⟩ := Kd.at_int HR0.out x7_1 p183 q183
         cases e183
         replace p183 := eq_true p183
         replace q183 := eq_true q183
         go_wp2
         go_ret
         exact ⟨by first | rfl | (simp; done) | (simp [*]; done), by repeat (first | exact Drawn0.refl _ | apply Drawn0.step)⟩
       · rw [if_neg c6] at H
         have c6b0 : decide ((rd l0 x7_1) < 1) = false := decide_eq_false c6
         clear c6
         by_cases c7 : (rd l0 x7_1) > 100000
         · rw [if_pos c7] at H
           have c7b0 : decide (100000 < (rd l0 x7_1)) = true := decide_eq_true c7
           clear c7
           obtain rfl := Option.some.inj H
           have p183 : 0 ≤ (x7_1 : Int) := of_decide_eq_true (by first | (with_reducible assumption) | assumption)
           have q183 : x7_1 < (l0.length : Int) := of_decide_eq_true (by first | (with_reducible assumption) | assumption)
           obtain ⟨ad183, e183, hx183_0⟩ := Kd.at_int HR0.out x7_1 p183 q183
           cases e183
           replace p183 := eq_true p183
           replace q183 := eq_true q183
           have p184 : 0 ≤ (x7_1 : Int) := of_decide_eq_true (by first | (with_reducible assumption) | assumption)
           have q184 : x7_1 < (l0.length : Int) := of_decide_eq_true (by first | (with_reducible assumption) | assumption)
           obtain ⟨ad184, e184, hx184_0⟩ := Kd.at_int HR0.out x7_1 p184 q184
           obtain rfl : ad183 = ad184 := (by injection e184)
           replace p184 := eq_true p184
           replace q184 := eq_true q184
           go_wp2
           go_ret
           exact ⟨by first | rfl | (simp; done) | (simp [*]; done), by repeat (first | exact Drawn0.refl _ | apply Drawn0.step)⟩
         · rw [if_neg c7] at H
           have c7b0 : decide (100000 < (rd l0 x7_1)) = false := decide_eq_false c7
           clear c7
           have H' := Aside0.mk H
           clear H
           have p183 : 0 ≤ (x7_1 : Int) := of_decide_eq_true (by first | (with_reducible assumption) | assumption)
           have q183 : x7_1 < (l0.length : Int) := of_decide_eq_true (by first | (with_reducible assumption) | assumption)
           obtain ⟨ad183, e183, hx183_0⟩ := Kd.at_int HR0.out x7_1 p183 q183
           cases e183
           replace p183 := eq_true p183
           replace q183 := eq_true q183
           have p184 : 0 ≤ (x7_1 : Int) := of_decide_eq_true (by first | (with_reducible assumption) | assumption)
           have q184 : x7_1 < (l0.length : Int) := of_decide_eq_true (by first | (with_reducible assumption) | assumption)
           obtain ⟨ad184, e184, hx184_0⟩ := Kd.at_int HR0.out x7_1 p184 q184
           obtain rfl : ad183 = ad184 := (by injection e184)
           replace p184 := eq_true p184
           replace q184 := eq_true q184
           go_wp2
           go_roundg k1
           case measure => have := HK1.out; omega
           case rel => exact ⟨(wrap64 (x7_1 + 1)), (by first | rfl | (simp; done) | (simp [*]; done) | (simp [wrap64]; done)), H', ⟨by have := HK1.out; omega⟩, by repeat (first | exact Drawn0.refl _ | apply Drawn0.step)⟩
     · rw [if_neg c5] at H
       exact absurd H (by simp)
   · rw [if_neg c4] at H
     have c4b0 : decide (x7_1 < (l0.length : Int)) = false := decide_eq_false c4
     clear c4
     by_cases c8 : (l0.length : Int) ≤ 100
     · rw [if_pos c8] at H
       have c8b0 : decide ((l0.length : Int) ≤ 100) = true := decide_eq_true c8
       have c8b1 : decide (l0.length ≤ 100) = true := decide_eq_true (by omega)
       clear c8
       by_cases c9 : a1 ≥ 1
       · rw [if_pos c9] at H
         have c9b0 : decide (1 ≤ a1) = true := decide_eq_true c9
         clear c9
         by_cases c10 : a1 ≤ 100000
         · rw [if_pos c10] at H
           have c10b0 : decide (a1 ≤ 100000) = true := decide_eq_true c10
           clear c10
           by_cases c11 : a2 ≥ 0
           · rw [if_pos c11] at H
             have c11b0 : decide (0 ≤ a2) = true := decide_eq_true c11
             clear c11
             obtain rfl := Option.some.inj H
             go_wp2
             go_ret
             exact ⟨by first | rfl | (simp; done) | (simp [*]; done), by repeat (first | exact Drawn0.refl _ | apply Drawn0.step)⟩
           · rw [if_neg c11] at H
             have c11b0 : decide (0 ≤ a2) = false := decide_eq_false c11
             clear c11
             obtain rfl := Option.some.inj H
             go_wp2
             go_ret
             exact ⟨by first | rfl | (simp; done) | (simp [*]; done), by repeat (first | exact Drawn0.refl _ | apply Drawn0.step)⟩
         · rw [if_neg c10] at H
           have c10b0 : decide (a1 ≤ 100000) = false := decide_eq_false c10
           clear c10
           obtain rfl := Option.some.inj H
           go_wp2
           go_ret
           exact ⟨by first | rfl | (simp; done) | (simp [*]; done), by repeat (first | exact Drawn0.refl _ | apply Drawn0.step)⟩
       · rw [if_neg c9] at H
         have c9b0 : decide (1 ≤ a1) = false := decide_eq_false c9
         clear c9
         obtain rfl := Option.some.inj H
         go_wp2
         go_ret
         exact ⟨by first | rfl | (simp; done) | (simp [*]; done), by repeat (first | exact Drawn0.refl _ | apply Drawn0.step)⟩
     · rw [if_neg c8] at H
       have c8b0 : decide ((l0.length : Int) ≤ 100) = false := decide_eq_false c8
       have c8b1 : decide (l0.length ≤ 100) = false := decide_eq_false (by omega)
       clear c8
       obtain rfl := Option.some.inj H
       go_wp2
       go_ret
       exact ⟨by first | rfl | (simp; done) | (simp [*]; done), by repeat (first | exact Drawn0.refl _ | apply Drawn0.step)⟩

/-! ### partitaref26_rest: function 24 -/
def partitaref26_rest.l0 : Nat → List Int → Int → Int → Int → Int → Option (Int)
 | 0, _, _, _, _, _ => none
 | k + 1, x0, x2, x4, x11, x12 => if x12 < x4 then (if 0 ≤ x12 then (if x12 < (x0.length : Int) then (partitaref26_rest.l0 k x0 x2 x4 (wrap64 ((wrap64 (x11 - (rd x0 x12))) - x2)) (wrap64 (x12 + 1))) else (none)) else (none)) else (some x11)
def partitaref26_rest.f (k : Nat) (l0 : List Int) (a1 : Int) (a2 : Int) (a3 : Int) (a4 : Int) : Option (Int) := partitaref26_rest.l0 k l0 a2 a4 (wrap64 (a1 + a2)) a3
theorem partitaref26_rest.mono_l : ∀ k, (∀ y0 y1 y2 y3 y4, LeO (partitaref26_rest.l0 k y0 y1 y2 y3 y4) (partitaref26_rest.l0 (k + 1) y0 y1 y2 y3 y4))
 | 0 => fun _ _ _ _ _ r h => by simp [partitaref26_rest.l0] at h
 | k + 1 => by
  have ih0 := partitaref26_rest.mono_l k
  · intro y0 y1 y2 y3 y4
    unfold partitaref26_rest.l0
    repeat' first
    | (with_reducible exact ih0 _ _ _ _ _)
    | (with_reducible exact LeO.refl _)
    | (with_reducible exact LeO.none _)
    | (with_reducible refine LeO.ite ?_ ?_)
    | (with_reducible refine LeO.bind ?_ (fun _ => ?_))
    | exact ih0 _ _ _ _ _
    | exact LeO.none _
    | refine LeO.ite ?_ ?_
    | refine LeO.bind ?_ (fun _ => ?_)
theorem partitaref26_rest.mono : ∀ a0 a1 a2 a3 a4 k, LeO (partitaref26_rest.f k a0 a1 a2 a3 a4) (partitaref26_rest.f (k + 1) a0 a1 a2 a3 a4) := by
 intro a0 a1 a2 a3 a4 k
 have ih0 := partitaref26_rest.mono_l k
 unfold partitaref26_rest.f
 repeat' first
  | (with_reducible exact ih0 _ _ _ _ _)
  | (with_reducible exact LeO.refl _)
  | (with_reducible exact LeO.none _)
  | (with_reducible refine LeO.ite ?_ ?_)
  | (with_reducible refine LeO.bind ?_ (fun _ => ?_))
  | exact ih0 _ _ _ _ _
  | exact LeO.none _
  | refine LeO.ite ?_ ?_
  | refine LeO.bind ?_ (fun _ => ?_)
set_option maxHeartbeats 8000000 in
set_option maxRecDepth 100000 in
theorem partitaref26_rest.calls (k : Nat) (A0 : Option Addr) (c0 : Nat) (l0 : List Int) (a1 : Int) (a2 : Int) (a3 : Int) (a4 : Int) (r : Int) (w : World) (hr0 : Kd.C (Kd.int .i64) w A0 l0.length l0) (hc0 : l0.length ≤ c0) (h : partitaref26_rest.f k l0 a1 a2 a3 a4 = some r) :
 Calls Tryd.prog 24 #[.slice A0 l0.length c0, .int .i64 a1, .int .i64 a2, .int .i64 a3, .int .i64 a4] w fun e w' => e = .returned (.int .i64 r) ∧ Drawn0 w w' := by
 have HR0 := Aside0.mk hr0
 have HC0 := Aside0.mk hc0
 clear hr0 hc0
 have H : (partitaref26_rest.l0 k l0 a2 a4 (wrap64 (a1 + a2)) a3) = some r := h
 clear h
 have H' := Aside0.mk H
 clear H
 go_enter Tryd.func24, Tryd.ntmps24
 go_wp2
 go_loopg [11, 12] k (fun kq v11 v12 w' => ∃ (x11_1 : Int) (x12_1 : Int), v11 = .int .i64 x11_1 ∧ v12 = .int .i64 x12_1 ∧ Aside0 (partitaref26_rest.l0 kq l0 a2 a4 x11_1 x12_1 = some r) ∧ Aside0 (kq ≤ k) ∧ Drawn0 w w')
 case atStart => exact ⟨(wrap64 (a1 + a2)), (a3), (by first | rfl | (simp; done) | (simp [*]; done) | (simp [wrap64]; done)), (by first | rfl | (simp; done) | (simp [*]; done) | (simp [wrap64]; done)), H', ⟨Nat.le_refl _⟩, by repeat (first | exact Drawn0.refl _ | apply Drawn0.step)⟩
 case round =>
  clear H'
  try clear c2
  try clear p2
  obtain ⟨x11_1, x12_1, rfl, rfl, HA, HK1, ⟨m1, rfl⟩⟩ := hrel
  cases gk with
  | zero => exact absurd HA.out (by simp [partitaref26_rest.l0])
  | succ k1 =>
   have H := HA.out
   clear HA
   simp only [partitaref26_rest.l0] at H
   by_cases c6 : x12_1 < a4
   · rw [if_pos c6] at H
     have c6b0 : decide (x12_1 < a4) = true := decide_eq_true c6
     clear c6
     by_cases c7 : 0 ≤ x12_1
     · rw [if_pos c7] at H
       have c7b0 : decide (0 ≤ x12_1) = true := decide_eq_true c7
       clear c7
       by_cases c8 : x12_1 < (l0.length : Int)
       · rw [if_pos c8] at H
         have c8b0 : decide (x12_1 < (l0.length : Int)) = true := decide_eq_true c8
         clear c8
         have H' := Aside0.mk H
         clear H
         have p185 : 0 ≤ (x12_1 : Int) := of_decide_eq_true (by first | (with_reducible assumption) | assumption)
         have q185 : x12_1 < (l0.length : Int) := of_decide_eq_true (by first | (with_reducible assumption) | assumption)
         obtain ⟨ad185, e185, hx185_0⟩ := Kd.at_int HR0.out x12_1 p185 q185
         cases e185
         replace p185 := eq_true p185
         replace q185 := eq_true q185
         go_wp2
         go_roundg k1
         case measure => have := HK1.out; omega
         case rel => exact ⟨(wrap64 ((wrap64 (x11_1 - (rd l0 x12_1))) - a2)), (wrap64 (x12_1 + 1)), (by first | rfl | (simp; done) | (simp [*]; done) | (simp [wrap64]; done)), (by first | rfl | (simp; done) | (simp [*]; done) | (simp [wrap64]; done)), H', ⟨by have := HK1.out; omega⟩, by repeat (first | exact Drawn0.refl _ | apply Drawn0.step)⟩
       · rw [if_neg c8] at H
         exact absurd H (by simp)
     · rw [if_neg c7] at H
       exact absurd H (by simp)
   · rw [if_neg c6] at H
     have c6b0 : decide (x12_1 < a4) = false := decide_eq_false c6
     clear c6
     obtain rfl := Option.some.inj H
     go_wp2
     go_ret
     exact ⟨by first | rfl | (simp; done) | (simp [*]; done), by repeat (first | exact Drawn0.refl _ | apply Drawn0.step)⟩

/-! ### partitaref26_tops: function 25 -/
def partitaref26_tops.l0 : Nat → List Int → Int → Int → Int → Int → List Int → Int → Int → Option (List Int)
 | 0, _, _, _, _, _, _, _, _ => none
 | k + 1, x0, x1, x2, x3, x4, x11, x12, x13 => if x13 < x3 then (if (wrap64 (x3 - x2)) > 1 then (if (wrap64 ((wrap64 (x3 - x2)) - 1)) = 0 then (none) else (if x11.length < 17592186044416 then (if 0 ≤ x13 then (if x13 < (x0.length : Int) then (partitaref26_tops.l0 k x0 x1 x2 x3 x4 (x11 ++ [wrap64 (x12 + (wrap64 (Int.tdiv (wrap64 (x4 * (wrap64 (x13 - x2)))) (wrap64 ((wrap64 (x3 - x2)) - 1)))))]) (wrap64 ((wrap64 (x12 + (rd x0 x13))) + x1)) (wrap64 (x13 + 1))) else (none)) else (none)) else (none))) else (if x11.length < 17592186044416 then (if 0 ≤ x13 then (if x13 < (x0.length : Int) then (partitaref26_tops.l0 k x0 x1 x2 x3 x4 (x11 ++ [wrap64 (x12 + 0)]) (wrap64 ((wrap64 (x12 + (rd x0 x13))) + x1)) (wrap64 (x13 + 1))) else (none)) else (none)) else (none))) else (some x11)
def partitaref26_tops.f (k : Nat) (l0 : List Int) (a1 : Int) (a2 : Int) (a3 : Int) (a4 : Int) : Option (List Int) := partitaref26_tops.l0 k l0 a1 a2 a3 a4 ([] : List Int) 0 a2
theorem partitaref26_tops.mono_l : ∀ k, (∀ y0 y1 y2 y3 y4 y5 y6 y7, LeO (partitaref26_tops.l0 k y0 y1 y2 y3 y4 y5 y6 y7) (partitaref26_tops.l0 (k + 1) y0 y1 y2 y3 y4 y5 y6 y7))
 | 0 => fun _ _ _ _ _ _ _ _ r h => by simp [partitaref26_tops.l0] at h
 | k + 1 => by
  have ih0 := partitaref26_tops.mono_l k
  · intro y0 y1 y2 y3 y4 y5 y6 y7
    unfold partitaref26_tops.l0
    repeat' first
    | (with_reducible exact ih0 _ _ _ _ _ _ _ _)
    | (with_reducible exact LeO.refl _)
    | (with_reducible exact LeO.none _)
    | (with_reducible refine LeO.ite ?_ ?_)
    | (with_reducible refine LeO.bind ?_ (fun _ => ?_))
    | exact ih0 _ _ _ _ _ _ _ _
    | exact LeO.none _
    | refine LeO.ite ?_ ?_
    | refine LeO.bind ?_ (fun _ => ?_)
theorem partitaref26_tops.mono : ∀ a0 a1 a2 a3 a4 k, LeO (partitaref26_tops.f k a0 a1 a2 a3 a4) (partitaref26_tops.f (k + 1) a0 a1 a2 a3 a4) := by
 intro a0 a1 a2 a3 a4 k
 have ih0 := partitaref26_tops.mono_l k
 unfold partitaref26_tops.f
 repeat' first
  | (with_reducible exact ih0 _ _ _ _ _ _ _ _)
  | (with_reducible exact LeO.refl _)
  | (with_reducible exact LeO.none _)
  | (with_reducible refine LeO.ite ?_ ?_)
  | (with_reducible refine LeO.bind ?_ (fun _ => ?_))
  | exact ih0 _ _ _ _ _ _ _ _
  | exact LeO.none _
  | refine LeO.ite ?_ ?_
  | refine LeO.bind ?_ (fun _ => ?_)
set_option maxHeartbeats 8000000 in
set_option maxRecDepth 100000 in
theorem partitaref26_tops.calls (k : Nat) (A0 : Option Addr) (c0 : Nat) (l0 : List Int) (a1 : Int) (a2 : Int) (a3 : Int) (a4 : Int) (r : List Int) (w : World) (hr0 : Kd.C (Kd.int .i64) w A0 l0.length l0) (hc0 : l0.length ≤ c0) (h : partitaref26_tops.f k l0 a1 a2 a3 a4 = some r) :
 Calls Tryd.prog 25 #[.slice A0 l0.length c0, .int .i64 a1, .int .i64 a2, .int .i64 a3, .int .i64 a4] w fun e w' => ∃ v0_ : Value, e = .returned (v0_) ∧ Kd.R (Kd.int .i64) 3 w' w.heap.size (fun _ => True) v0_ r ∧ Below w.heap.size w w' := by
 have HR0 := Aside0.mk hr0
 have HC0 := Aside0.mk hc0
 clear hr0 hc0
 have HB := Aside0.mk (Below.refl w.heap.size w)
 have H : (partitaref26_tops.l0 k l0 a1 a2 a3 a4 ([] : List Int) 0 a2) = some r := h
 clear h
 have H' := Aside0.mk H
 clear H
 go_enter Tryd.func25, Tryd.ntmps25
 go_wp2
 go_loopg [11, 12, 13] k (fun kq v11 v12 v13 w' => ∃ (x11_1 : List Int) (x12_1 : Int) (x13_1 : Int), v12 = .int .i64 x12_1 ∧ v13 = .int .i64 x13_1 ∧ Aside0 (partitaref26_tops.l0 kq l0 a1 a2 a3 a4 x11_1 x12_1 x13_1 = some r) ∧ Aside0 (kq ≤ k) ∧ Aside0 (Kd.R (Kd.int .i64) 3 w' w.heap.size (fun _ => True) v11 x11_1) ∧ Aside0 (Below w.heap.size w w'))
 case atStart => exact ⟨(([] : List Int)), (0), (a2), (by first | rfl | (simp; done) | (simp [*]; done) | (simp [wrap64]; done)), (by first | rfl | (simp; done) | (simp [*]; done) | (simp [wrap64]; done)), H', ⟨Nat.le_refl _⟩, ⟨by first | exact Kd.R_nil _ _ _ _ _ | exact Kd.N_nil _ _ _ _ _ | exact Kd.V_nil _ _ _ _ _ | exact Kd.Q_nil _ _ _ _ _ | exact Kd.S_nil _ _ _ _ _⟩, ⟨by repeat (first | (with_reducible first | exact HB.out | apply below_alloc | apply pw_below_drewN | apply below_drew1) | exact HB.out)⟩⟩
 case round =>
  clear H'
  try clear c2
  try clear p2
  obtain ⟨x11_1, x12_1, x13_1, rfl, rfl, HA, HK1, HO_11, HB⟩ := hrel
  cases gk with
  | zero => exact absurd HA.out (by simp [partitaref26_tops.l0])
  | succ k1 =>
   have H := HA.out
   clear HA
   simp only [partitaref26_tops.l0] at H
   by_cases c6 : x13_1 < a3
   · rw [if_pos c6] at H
     have c6b0 : decide (x13_1 < a3) = true := decide_eq_true c6
     clear c6
     by_cases c7 : (wrap64 (a3 - a2)) > 1
     · rw [if_pos c7] at H
       have c7b0 : decide (1 < (wrap64 (a3 - a2))) = true := decide_eq_true c7
       clear c7
       by_cases c8 : (wrap64 ((wrap64 (a3 - a2)) - 1)) = 0
       · rw [if_pos c8] at H
         exact absurd H (by simp)
       · rw [if_neg c8] at H
         have c8b0 : ((wrap64 ((wrap64 (a3 - a2)) - 1)) == 0) = false := beq_eq_false_iff_ne.mpr c8
         have c8b1 : ((wrap64 ((wrap64 (a3 - a2)) - 1)) != 0) = true := bne_iff_ne.mpr c8
         by_cases c9 : x11_1.length < 17592186044416
         · rw [if_pos c9] at H
           have LMc9 := Aside0.mk c9
           clear c9
           obtain ⟨y186, hy186⟩ : ∃ y_ : List Int, y_ = (x11_1 ++ [wrap64 (x12_1 + (wrap64 (Int.tdiv (wrap64 (a4 * (wrap64 (x13_1 - a2)))) (wrap64 ((wrap64 (a3 - a2)) - 1)))))]) := ⟨_, rfl⟩
           replace H : (if 0 ≤ x13_1 then (if x13_1 < (l0.length : Int) then (partitaref26_tops.l0 k1 l0 a1 a2 a3 a4 y186 (wrap64 ((wrap64 (x12_1 + (rd l0 x13_1))) + a1)) (wrap64 (x13_1 + 1))) else (none)) else (none)) = some r := by first | (rw [hy186]; with_reducible exact H) | (have H2_ := (Option.bind_some _ _).symm.trans H; rw [hy186]; with_reducible exact H2_) | (have H2_ := (Option.bind_some _ _).symm.trans H; with_reducible exact H2_) | with_reducible exact H | (rw [hy186]; exact H) | exact H
           have Ny186 := Aside0.mk hy186
           clear hy186
           by_cases c10 : 0 ≤ x13_1
           · rw [if_pos c10] at H
             have c10b0 : decide (0 ≤ x13_1) = true := decide_eq_true c10
             clear c10
             by_cases c11 : x13_1 < (l0.length : Int)
             · rw [if_pos c11] at H
               have c11b0 : decide (x13_1 < (l0.length : Int)) = true := decide_eq_true c11
               clear c11
               have H' := Aside0.mk H
               clear H
               go_wp2_with (first | ((with_reducible refine gate_builtin (b := .append) (xs := #[.tmp 35, .tmp 39]) rfl ?_); at_builtin; refine Kd.R_append (Kd.int .i64) (w0 := w) w.heap.size rfl (.tmp 35) (.tmp 39) 22 3 (.int .i64 0) 8 rfl Tryd.underlying22 info3 rfl (by decide) (by omega) u11 x11_1 (wrap64 (x12_1 + (wrap64 (Int.tdiv (wrap64 (a4 * (wrap64 (x13_1 - a2)))) (wrap64 ((wrap64 (a3 - a2)) - 1)))))) [.int .i64 (wrap64 (x12_1 + (wrap64 (Int.tdiv (wrap64 (a4 * (wrap64 (x13_1 - a2)))) (wrap64 ((wrap64 (a3 - a2)) - 1))))))] (fun _ => True) (fun _ => False) rfl rfl ?aP (fun _ hk => hk.elim) ?aF ?aO ?aB ?aS ?aL ?_; (case aP => exact rfl); (case aB => exact (by repeat (first | (with_reducible first | exact HB.out | apply below_alloc | apply pw_below_drewN | apply below_drew1) | exact HB.out))); (case aF => exact (fun _ _ => trivial)); (case aO => exact (qR HO_11.out)); (case aS => exact (below_size (by repeat (first | (with_reducible first | exact HB.out | apply below_alloc | apply pw_below_drewN | apply below_drew1) | exact HB.out)))); (case aL => have := LMc9.out; omega); intro v187 w12 ho hb hg hat; rw [← Ny186.out] at ho; have n0_ := Aside0.mk (hb); have n1_ := Aside0.mk (ho); clear HB; clear HO_11; have HB := n0_; have HO188 := n1_; clear n0_ n1_; clear ho hb hg hat; have p189 : 0 ≤ (x13_1 : Int) := of_decide_eq_true (by first | (with_reducible assumption) | assumption); have q189 : x13_1 < (l0.length : Int) := of_decide_eq_true (by first | (with_reducible assumption) | assumption); obtain ⟨ad189, e189, hx189_0⟩ := Kd.at_int HR0.out x13_1 p189 q189; cases e189; replace hx189_0 := (HB.out.cell (World.block_lt_of_cell? w _ hx189_0)).trans hx189_0; replace p189 := eq_true p189; replace q189 := eq_true q189))
               go_roundg k1
               case measure => have := HK1.out; omega
               case rel => exact ⟨(y186), (wrap64 ((wrap64 (x12_1 + (rd l0 x13_1))) + a1)), (wrap64 (x13_1 + 1)), (by first | rfl | (simp; done) | (simp [*]; done) | (simp [wrap64]; done)), (by first | rfl | (simp; done) | (simp [*]; done) | (simp [wrap64]; done)), H', ⟨by have := HK1.out; omega⟩, ⟨by (with_reducible repeat (first | apply Kd.R_alloc | apply Kd.R_drewN | apply Kd.R_drew)); exact HO188.out⟩, ⟨by repeat (first | (with_reducible first | exact HB.out | apply below_alloc | apply pw_below_drewN | apply below_drew1) | exact HB.out)⟩⟩
             · rw [if_neg c11] at H
               exact absurd H (by simp)
           · rw [if_neg c10] at H
             exact absurd H (by simp)
         · rw [if_neg c9] at H
           exact absurd H (by simp)
     · rw [if_neg c7] at H
       have c7b0 : decide (1 < (wrap64 (a3 - a2))) = false := decide_eq_false c7
       clear c7
       by_cases c13 : x11_1.length < 17592186044416
       · rw [if_pos c13] at H
         have LMc13 := Aside0.mk c13
         clear c13
         rw [Int.add_zero] at H
         obtain ⟨y190, hy190⟩ : ∃ y_ : List Int, y_ = (x11_1 ++ [wrap64 (x12_1)]) := ⟨_, rfl⟩
         replace H : (if 0 ≤ x13_1 then (if x13_1 < (l0.length : Int) then (partitaref26_tops.l0 k1 l0 a1 a2 a3 a4 y190 (wrap64 ((wrap64 (x12_1 + (rd l0 x13_1))) + a1)) (wrap64 (x13_1 + 1))) else (none)) else (none)) = some r := by first | (rw [hy190]; with_reducible exact H) | (have H2_ := (Option.bind_some _ _).symm.trans H; rw [hy190]; with_reducible exact H2_) | (have H2_ := (Option.bind_some _ _).symm.trans H; with_reducible exact H2_) | with_reducible exact H | (rw [hy190]; exact H) | exact H
         have Ny190 := Aside0.mk hy190
         clear hy190
         by_cases c14 : 0 ≤ x13_1
         · rw [if_pos c14] at H
           have c14b0 : decide (0 ≤ x13_1) = true := decide_eq_true c14
           clear c14
           by_cases c15 : x13_1 < (l0.length : Int)
           · rw [if_pos c15] at H
             have c15b0 : decide (x13_1 < (l0.length : Int)) = true := decide_eq_true c15
             clear c15
             have H' := Aside0.mk H
             clear H
             go_wp2_with (first | ((with_reducible refine gate_builtin (b := .append) (xs := #[.tmp 35, .tmp 39]) rfl ?_); at_builtin; refine Kd.R_append (Kd.int .i64) (w0 := w) w.heap.size rfl (.tmp 35) (.tmp 39) 22 3 (.int .i64 0) 8 rfl Tryd.underlying22 info3 rfl (by decide) (by omega) u11 x11_1 (wrap64 x12_1) [.int .i64 (wrap64 x12_1)] (fun _ => True) (fun _ => False) rfl rfl ?aP (fun _ hk => hk.elim) ?aF ?aO ?aB ?aS ?aL ?_; (case aP => exact rfl); (case aB => exact (by repeat (first | (with_reducible first | exact HB.out | apply below_alloc | apply pw_below_drewN | apply below_drew1) | exact HB.out))); (case aF => exact (fun _ _ => trivial)); (case aO => exact (qR HO_11.out)); (case aS => exact (below_size (by repeat (first | (with_reducible first | exact HB.out | apply below_alloc | apply pw_below_drewN | apply below_drew1) | exact HB.out)))); (case aL => have := LMc13.out; omega); intro v191 w16 ho hb hg hat; rw [← Ny190.out] at ho; have n0_ := Aside0.mk (hb); have n1_ := Aside0.mk (ho); clear HB; clear HO_11; have HB := n0_; have HO192 := n1_; clear n0_ n1_; clear ho hb hg hat; have p193 : 0 ≤ (x13_1 : Int) := of_decide_eq_true (by first | (with_reducible assumption) | assumption); have q193 : x13_1 < (l0.length : Int) := of_decide_eq_true (by first | (with_reducible assumption) | assumption); obtain ⟨ad193, e193, hx193_0⟩ := Kd.at_int HR0.out x13_1 p193 q193; cases e193; replace hx193_0 := (HB.out.cell (World.block_lt_of_cell? w _ hx193_0)).trans hx193_0; replace p193 := eq_true p193; replace q193 := eq_true q193))
             go_roundg k1
             case measure => have := HK1.out; omega
             case rel => exact ⟨(y190), (wrap64 ((wrap64 (x12_1 + (rd l0 x13_1))) + a1)), (wrap64 (x13_1 + 1)), (by first | rfl | (simp; done) | (simp [*]; done) | (simp [wrap64]; done)), (by first | rfl | (simp; done) | (simp [*]; done) | (simp [wrap64]; done)), H', ⟨by have := HK1.out; omega⟩, ⟨by (with_reducible repeat (first | apply Kd.R_alloc | apply Kd.R_drewN | apply Kd.R_drew)); exact HO192.out⟩, ⟨by repeat (first | (with_reducible first | exact HB.out | apply below_alloc | apply pw_below_drewN | apply below_drew1) | exact HB.out)⟩⟩
           · rw [if_neg c15] at H
             exact absurd H (by simp)
         · rw [if_neg c14] at H
           exact absurd H (by simp)
       · rw [if_neg c13] at H
         exact absurd H (by simp)
   · rw [if_neg c6] at H
     have c6b0 : decide (x13_1 < a3) = false := decide_eq_false c6
     clear c6
     obtain rfl := Option.some.inj H
     go_wp2
     go_ret
     exact ⟨_, by first | rfl | (simp [errW_none, errW_some] <;> rfl) | (simp [*, errW_none, errW_some] <;> rfl), by (with_reducible repeat (first | apply Kd.R_alloc | apply Kd.R_drewN | apply Kd.R_drew)); exact HO_11.out, by repeat (first | (with_reducible first | exact HB.out | apply below_alloc | apply pw_below_drewN | apply below_drew1) | exact HB.out)⟩

end Go.Proofs.YtbpcilbplgbonaaDoor.Q
