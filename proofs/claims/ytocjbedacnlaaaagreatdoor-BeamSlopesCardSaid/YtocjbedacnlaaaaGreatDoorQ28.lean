-- Written by a program of this session (myprint.py), function by function.
import Derived.Test.YtocjbedacnlaaaaGreatDoorQ0
import Derived.Test.YtocjbedacnlaaaaGreatDoorQ27
import Derived.Test.YtocjbedacnlaaaaGreatDoorSmallMost
namespace Go.Proofs.YtocjbedacnlaaaaGreatDoor.Q
open Go.RowKit Go.Proofs.YtocjbedacnlaaaaGreatDoorW.PrintWords Go.Proofs.YtocjbedacnlaaaaGreatDoorW.PrintLast Go.Proofs.YtocjbedacnlaaaaGreatDoorW.PrintMore
attribute [local go_sem] max2_int min2_int max_two min_two max_three min_three max_four min_four   -- for this text's walks alone
set_option linter.unusedVariables false
set_option linter.unusedSimpArgs false

/-! ### partitaref23_Slope: function 16 -/
mutual
def partitaref23_Slope.j0 : Nat → List Int → Bool → Int → Bool → Option (List Int × Int)
 | 0, _, _, _, _ => none
 | k + 1, x0, x1, x6, x22 => if x22 = true then (some (([] : List Int), 230)) else (partitaref23_Slope.l0 k x0 x1 x6 ([] : List Int) 0)
def partitaref23_Slope.l0 : Nat → List Int → Bool → Int → List Int → Int → Option (List Int × Int)
 | 0, _, _, _, _, _ => none
 | k + 1, x0, x1, x6, x7, x8 => if x8 < x6 then (if 0 ≤ x8 then (if x8 < (x0.length : Int) then (if (rd x0 x8) < (-100) then (partitaref23_Slope.j2 k x0 x1 x6 x7 x8 true) else (partitaref23_Slope.j2 k x0 x1 x6 x7 x8 (decide ((rd x0 x8) > 100)))) else (none)) else (none)) else (if 0 ≤ (wrap64 (x6 - 1)) then (if (wrap64 (x6 - 1)) < (x7.length : Int) then (if 0 < (x7.length : Int) then (partitaref23_Slope.l1 k x1 x6 x7 (mn (mx (wrap64 ((rd x7 (wrap64 (x6 - 1))) - (rd x7 0))) (-2)) 2) (-1000) 0) else (none)) else (none)) else (none))
def partitaref23_Slope.j2 : Nat → List Int → Bool → Int → List Int → Int → Bool → Option (List Int × Int)
 | 0, _, _, _, _, _, _ => none
 | k + 1, x0, x1, x6, x7, x8, x39 => if x39 = true then (some (([] : List Int), 230)) else (if x1 = true then (if 0 ≤ x8 then (if x8 < (x0.length : Int) then (if x7.length < 17592186044416 then (partitaref23_Slope.l0 k x0 x1 x6 (x7 ++ [rd x0 x8]) (wrap64 (x8 + 1))) else (none)) else (none)) else (none)) else (if 0 ≤ x8 then (if x8 < (x0.length : Int) then (if x7.length < 17592186044416 then (partitaref23_Slope.l0 k x0 x1 x6 (x7 ++ [wrap64 (-(rd x0 x8))]) (wrap64 (x8 + 1))) else (none)) else (none)) else (none)))
def partitaref23_Slope.l1 : Nat → Bool → Int → List Int → Int → Int → Int → Option (List Int × Int)
 | 0, _, _, _, _, _, _ => none
 | k + 1, x1, x6, x7, x9, x10, x11 => if x11 < x6 then (if 0 ≤ x11 then (if x11 < (x7.length : Int) then ((partitaref23_floor.f (wrap64 (x9 * x11)) (wrap64 (x6 - 1))).bind fun t515 => (partitaref23_Slope.l1 k x1 x6 x7 x9 (mx x10 (wrap64 ((wrap64 ((rd x7 x11) + 5)) - t515))) (wrap64 (x11 + 1)))) else (none)) else (none)) else (partitaref23_Slope.l2 k x1 x6 x9 x10 ([] : List Int) 0)
def partitaref23_Slope.l2 : Nat → Bool → Int → Int → Int → List Int → Int → Option (List Int × Int)
 | 0, _, _, _, _, _, _ => none
 | k + 1, x1, x6, x9, x10, x12, x13 => if x13 < x6 then ((partitaref23_floor.f (wrap64 (x9 * x13)) (wrap64 (x6 - 1))).bind fun t516 => (if x1 = true then (if x12.length < 17592186044416 then (partitaref23_Slope.l2 k x1 x6 x9 x10 (x12 ++ [wrap64 (x10 + t516)]) (wrap64 (x13 + 1))) else (none)) else (if x12.length < 17592186044416 then (partitaref23_Slope.l2 k x1 x6 x9 x10 (x12 ++ [wrap64 (-(wrap64 (x10 + t516)))]) (wrap64 (x13 + 1))) else (none)))) else (some (x12, 0))
end
def partitaref23_Slope.f (k : Nat) (l0 : List Int) (a1 : Bool) : Option (List Int × Int) := if (l0.length : Int) < 2 then (partitaref23_Slope.j0 k l0 a1 (l0.length : Int) true) else (partitaref23_Slope.j0 k l0 a1 (l0.length : Int) (decide ((l0.length : Int) > 64)))
theorem partitaref23_Slope.mono_l : ∀ k, (∀ y0 y1 y2 y3, LeO (partitaref23_Slope.j0 k y0 y1 y2 y3) (partitaref23_Slope.j0 (k + 1) y0 y1 y2 y3)) ∧ (∀ y0 y1 y2 y3 y4, LeO (partitaref23_Slope.l0 k y0 y1 y2 y3 y4) (partitaref23_Slope.l0 (k + 1) y0 y1 y2 y3 y4)) ∧ (∀ y0 y1 y2 y3 y4 y5, LeO (partitaref23_Slope.j2 k y0 y1 y2 y3 y4 y5) (partitaref23_Slope.j2 (k + 1) y0 y1 y2 y3 y4 y5)) ∧ (∀ y0 y1 y2 y3 y4 y5, LeO (partitaref23_Slope.l1 k y0 y1 y2 y3 y4 y5) (partitaref23_Slope.l1 (k + 1) y0 y1 y2 y3 y4 y5)) ∧ (∀ y0 y1 y2 y3 y4 y5, LeO (partitaref23_Slope.l2 k y0 y1 y2 y3 y4 y5) (partitaref23_Slope.l2 (k + 1) y0 y1 y2 y3 y4 y5))
 | 0 => ⟨fun _ _ _ _ r h => by simp [partitaref23_Slope.j0] at h, fun _ _ _ _ _ r h => by simp [partitaref23_Slope.l0] at h, fun _ _ _ _ _ _ r h => by simp [partitaref23_Slope.j2] at h, fun _ _ _ _ _ _ r h => by simp [partitaref23_Slope.l1] at h, fun _ _ _ _ _ _ r h => by simp [partitaref23_Slope.l2] at h⟩
 | k + 1 => by
  obtain ⟨ih0, ih1, ih2, ih3, ih4⟩ := partitaref23_Slope.mono_l k
  refine ⟨?_, ?_, ?_, ?_, ?_⟩
  · intro y0 y1 y2 y3
    unfold partitaref23_Slope.j0
    repeat' first
    | (with_reducible exact ih0 _ _ _ _)
    | (with_reducible exact ih1 _ _ _ _ _)
    | (with_reducible exact ih2 _ _ _ _ _ _)
    | (with_reducible exact ih3 _ _ _ _ _ _)
    | (with_reducible exact ih4 _ _ _ _ _ _)
    | (with_reducible exact LeO.refl _)
    | (with_reducible exact LeO.none _)
    | (with_reducible refine LeO.ite ?_ ?_)
    | (with_reducible refine LeO.bind ?_ (fun _ => ?_))
    | exact ih0 _ _ _ _
    | exact ih1 _ _ _ _ _
    | exact ih2 _ _ _ _ _ _
    | exact ih3 _ _ _ _ _ _
    | exact ih4 _ _ _ _ _ _
    | exact LeO.none _
    | refine LeO.ite ?_ ?_
    | refine LeO.bind ?_ (fun _ => ?_)
  · intro y0 y1 y2 y3 y4
    unfold partitaref23_Slope.l0
    repeat' first
    | (with_reducible exact ih0 _ _ _ _)
    | (with_reducible exact ih1 _ _ _ _ _)
    | (with_reducible exact ih2 _ _ _ _ _ _)
    | (with_reducible exact ih3 _ _ _ _ _ _)
    | (with_reducible exact ih4 _ _ _ _ _ _)
    | (with_reducible exact LeO.refl _)
    | (with_reducible exact LeO.none _)
    | (with_reducible refine LeO.ite ?_ ?_)
    | (with_reducible refine LeO.bind ?_ (fun _ => ?_))
    | exact ih0 _ _ _ _
    | exact ih1 _ _ _ _ _
    | exact ih2 _ _ _ _ _ _
    | exact ih3 _ _ _ _ _ _
    | exact ih4 _ _ _ _ _ _
    | exact LeO.none _
    | refine LeO.ite ?_ ?_
    | refine LeO.bind ?_ (fun _ => ?_)
  · intro y0 y1 y2 y3 y4 y5
    unfold partitaref23_Slope.j2
    repeat' first
    | (with_reducible exact ih0 _ _ _ _)
    | (with_reducible exact ih1 _ _ _ _ _)
    | (with_reducible exact ih2 _ _ _ _ _ _)
    | (with_reducible exact ih3 _ _ _ _ _ _)
    | (with_reducible exact ih4 _ _ _ _ _ _)
    | (with_reducible exact LeO.refl _)
    | (with_reducible exact LeO.none _)
    | (with_reducible refine LeO.ite ?_ ?_)
    | (with_reducible refine LeO.bind ?_ (fun _ => ?_))
    | exact ih0 _ _ _ _
    | exact ih1 _ _ _ _ _
    | exact ih2 _ _ _ _ _ _
    | exact ih3 _ _ _ _ _ _
    | exact ih4 _ _ _ _ _ _
    | exact LeO.none _
    | refine LeO.ite ?_ ?_
    | refine LeO.bind ?_ (fun _ => ?_)
  · intro y0 y1 y2 y3 y4 y5
    unfold partitaref23_Slope.l1
    repeat' first
    | (with_reducible exact ih0 _ _ _ _)
    | (with_reducible exact ih1 _ _ _ _ _)
    | (with_reducible exact ih2 _ _ _ _ _ _)
    | (with_reducible exact ih3 _ _ _ _ _ _)
    | (with_reducible exact ih4 _ _ _ _ _ _)
    | (with_reducible exact LeO.refl _)
    | (with_reducible exact LeO.none _)
    | (with_reducible refine LeO.ite ?_ ?_)
    | (with_reducible refine LeO.bind ?_ (fun _ => ?_))
    | exact ih0 _ _ _ _
    | exact ih1 _ _ _ _ _
    | exact ih2 _ _ _ _ _ _
    | exact ih3 _ _ _ _ _ _
    | exact ih4 _ _ _ _ _ _
    | exact LeO.none _
    | refine LeO.ite ?_ ?_
    | refine LeO.bind ?_ (fun _ => ?_)
  · intro y0 y1 y2 y3 y4 y5
    unfold partitaref23_Slope.l2
    repeat' first
    | (with_reducible exact ih0 _ _ _ _)
    | (with_reducible exact ih1 _ _ _ _ _)
    | (with_reducible exact ih2 _ _ _ _ _ _)
    | (with_reducible exact ih3 _ _ _ _ _ _)
    | (with_reducible exact ih4 _ _ _ _ _ _)
    | (with_reducible exact LeO.refl _)
    | (with_reducible exact LeO.none _)
    | (with_reducible refine LeO.ite ?_ ?_)
    | (with_reducible refine LeO.bind ?_ (fun _ => ?_))
    | exact ih0 _ _ _ _
    | exact ih1 _ _ _ _ _
    | exact ih2 _ _ _ _ _ _
    | exact ih3 _ _ _ _ _ _
    | exact ih4 _ _ _ _ _ _
    | exact LeO.none _
    | refine LeO.ite ?_ ?_
    | refine LeO.bind ?_ (fun _ => ?_)
theorem partitaref23_Slope.mono : ∀ a0 a1 k, LeO (partitaref23_Slope.f k a0 a1) (partitaref23_Slope.f (k + 1) a0 a1) := by
 intro a0 a1 k
 obtain ⟨ih0, ih1, ih2, ih3, ih4⟩ := partitaref23_Slope.mono_l k
 unfold partitaref23_Slope.f
 repeat' first
  | (with_reducible exact ih0 _ _ _ _)
  | (with_reducible exact ih1 _ _ _ _ _)
  | (with_reducible exact ih2 _ _ _ _ _ _)
  | (with_reducible exact ih3 _ _ _ _ _ _)
  | (with_reducible exact ih4 _ _ _ _ _ _)
  | (with_reducible exact LeO.refl _)
  | (with_reducible exact LeO.none _)
  | (with_reducible refine LeO.ite ?_ ?_)
  | (with_reducible refine LeO.bind ?_ (fun _ => ?_))
  | exact ih0 _ _ _ _
  | exact ih1 _ _ _ _ _
  | exact ih2 _ _ _ _ _ _
  | exact ih3 _ _ _ _ _ _
  | exact ih4 _ _ _ _ _ _
  | exact LeO.none _
  | refine LeO.ite ?_ ?_
  | refine LeO.bind ?_ (fun _ => ?_)
set_option maxHeartbeats 8000000 in
set_option maxRecDepth 100000 in
theorem partitaref23_Slope.calls (k : Nat) (A0 : Option Addr) (c0 : Nat) (l0 : List Int) (a1 : Bool) (r1 : List Int) (r2 : Int) (w : World) (hr0 : Kd.C (Kd.int .i64) w A0 l0.length l0) (hc0 : l0.length ≤ c0) (h : partitaref23_Slope.f k l0 a1 = some (r1, r2)) :
 Calls Tryz.prog 16 #[.slice A0 l0.length c0, .bool a1] w fun e w' => ∃ v0_ : Value, e = .returned (.tuple #[v0_, .int .i64 r2]) ∧ Kd.R (Kd.int .i64) 3 w' w.heap.size (fun _ => True) v0_ r1 ∧ Below w.heap.size w w' := by
 have HR0 := Aside0.mk hr0
 have HC0 := Aside0.mk hc0
 clear hr0 hc0
 have HB := Aside0.mk (Below.refl w.heap.size w)
 have H : (if (l0.length : Int) < 2 then (partitaref23_Slope.j0 k l0 a1 (l0.length : Int) true) else (partitaref23_Slope.j0 k l0 a1 (l0.length : Int) (decide ((l0.length : Int) > 64)))) = some (r1, r2) := h
 clear h
 have HC3 := Aside0.mk H
 clear H
 go_enter Tryz.func16, Tryz.ntmps16
 go_upto_region 2 with (fail)
 repeat (go_quiet (fail); go_upto_region 2 with (fail))
 go_cut [22] (fun v22 wc => ∃ (kq : Nat) (x22_2 : Bool), v22 = .bool x22_2 ∧ Aside0 (partitaref23_Slope.j0 kq l0 a1 (l0.length : Int) x22_2 = some (r1, r2)) ∧ Aside0 (kq ≤ k) ∧ Aside0 (Below w.heap.size w wc))
 case first =>
  have H := HC3.out
  clear HC3
  by_cases c4 : (l0.length : Int) < 2
  · rw [if_pos c4] at H
    have c4b0 : decide ((l0.length : Int) < 2) = true := decide_eq_true c4
    have c4b1 : decide (l0.length < 2) = true := decide_eq_true (by omega)
    clear c4
    (first | rw [c4b0] | (simp only [i64_w, i32_w]; rw [c4b0]) | skip)
    have H' := Aside0.mk H
    clear H
    go_wp2
    repeat (go_quiet (fail); try go_wp2)
    go_meet
    case rel => exact ⟨_, (true), (by first | rfl | (simp; done) | (simp [*]; done) | (simp [wrap64]; done)), H', ⟨by first | omega | exact Nat.le_refl _⟩, ⟨by exact qW HB.out⟩⟩
  · rw [if_neg c4] at H
    have c4b0 : decide ((l0.length : Int) < 2) = false := decide_eq_false c4
    have c4b1 : decide (l0.length < 2) = false := decide_eq_false (by omega)
    clear c4
    (first | rw [c4b0] | (simp only [i64_w, i32_w]; rw [c4b0]) | skip)
    have H' := Aside0.mk H
    clear H
    go_wp2
    repeat (go_quiet (fail); try go_wp2)
    go_meet
    case rel => exact ⟨_, (decide ((l0.length : Int) > 64)), (by first | rfl | (simp; done) | (simp [*]; done) | (simp [wrap64]; done)), H', ⟨by first | omega | exact Nat.le_refl _⟩, ⟨by exact qW HB.out⟩⟩
 case rest =>
  clear HC3
  try clear c1
  try clear p2
  try clear c4
  try clear c4b0
  try clear c4b1
  obtain ⟨kq, x22_2, rfl, HA, HJ2, HB⟩ := hcut
  cases kq with
  | zero => exact absurd HA.out (by simp [partitaref23_Slope.j0])
  | succ kj2 =>
   have H := HA.out
   clear HA
   simp only [partitaref23_Slope.j0] at H
   by_cases c5 : x22_2 = true
   · subst c5
     have H1 : (some (([] : List Int), 230)) = some (r1, r2) := by rw [if_pos rfl] at H; exact H
     clear H
     have H := H1
     clear H1
     simp only [Option.some.injEq, Prod.mk.injEq] at H
     obtain ⟨rfl, rfl⟩ := H
     go_wp2
     repeat (go_quiet (fail); try go_wp2)
     go_ret2
     exact ⟨_, by first | rfl | (simp [errW_none, errW_some] <;> rfl) | (simp [*, errW_none, errW_some] <;> rfl), by first | exact Kd.R_nil _ _ _ _ _ | exact Kd.N_nil _ _ _ _ _ | exact Kd.V_nil _ _ _ _ _ | exact Kd.Q_nil _ _ _ _ _ | exact Kd.S_nil _ _ _ _ _, by exact qW HB.out⟩
   · replace c5 := Bool.eq_false_iff.mpr c5
     subst c5
     have H1 : (partitaref23_Slope.l0 kj2 l0 a1 (l0.length : Int) ([] : List Int) 0) = some (r1, r2) := by rw [if_neg (show ¬ (false = true) by decide)] at H; exact H
     clear H
     have H := H1
     clear H1
     have H' := Aside0.mk H
     clear H
     go_wp2
     repeat (go_quiet (fail); try go_wp2)
     go_loopg [7, 8] kj2 (fun kq v7 v8 w' => ∃ (x7_2 : List Int) (x8_2 : Int), v8 = .int .i64 x8_2 ∧ Aside0 (partitaref23_Slope.l0 kq l0 a1 (l0.length : Int) x7_2 x8_2 = some (r1, r2)) ∧ Aside0 (kq ≤ kj2) ∧ Aside0 (Kd.R (Kd.int .i64) 3 w' w.heap.size (fun _ => True) v7 x7_2) ∧ Aside0 (Below w.heap.size w w'))
     case atStart => exact ⟨(([] : List Int)), (0), (by first | rfl | (simp; done) | (simp [*]; done) | (simp [wrap64]; done)), H', ⟨Nat.le_refl _⟩, ⟨by first | exact Kd.R_nil _ _ _ _ _ | exact Kd.N_nil _ _ _ _ _ | exact Kd.V_nil _ _ _ _ _ | exact Kd.Q_nil _ _ _ _ _ | exact Kd.S_nil _ _ _ _ _⟩, ⟨by exact qW HB.out⟩⟩
     case round =>
      clear H'
      try clear c1
      try clear p2
      try clear c4
      try clear c4b0
      try clear c4b1
      try clear c5
      try clear p2
      obtain ⟨x7_2, x8_2, rfl, HA, HK2, HO_7, HB⟩ := hrel
      cases gk with
      | zero => exact absurd HA.out (by simp [partitaref23_Slope.l0])
      | succ k2 =>
       have H := HA.out
       clear HA
       simp only [partitaref23_Slope.l0] at H
       by_cases c6 : x8_2 < (l0.length : Int)
       · rw [if_pos c6] at H
         have c6b0 : decide (x8_2 < (l0.length : Int)) = true := decide_eq_true c6
         clear c6
         have HC7 := Aside0.mk H
         clear H
         go_upto_region 8 with (fail)
         repeat (go_quiet (fail); go_upto_region 8 with (fail))
         go_cut [39] (fun v39 wc => ∃ (kq : Nat) (x39_6 : Bool), v39 = .bool x39_6 ∧ Aside0 (partitaref23_Slope.j2 kq l0 a1 (l0.length : Int) x7_2 x8_2 x39_6 = some (r1, r2)) ∧ Aside0 (kq ≤ k2) ∧ Aside0 (Kd.R (Kd.int .i64) 3 wc w.heap.size (fun _ => True) u7 x7_2) ∧ Aside0 (Below w.heap.size w wc))
         case first =>
          have H := HC7.out
          clear HC7
          by_cases c8 : 0 ≤ x8_2
          · rw [if_pos c8] at H
            have c8b0 : decide (0 ≤ x8_2) = true := decide_eq_true c8
            clear c8
            (first | rw [c8b0] | (simp only [i64_w, i32_w]; rw [c8b0]) | skip)
            by_cases c9 : x8_2 < (l0.length : Int)
            · rw [if_pos c9] at H
              have c9b0 : decide (x8_2 < (l0.length : Int)) = true := decide_eq_true c9
              clear c9
              by_cases c10 : (rd l0 x8_2) < (-100)
              · rw [if_pos c10] at H
                have c10b0 : decide ((rd l0 x8_2) < (-100)) = true := decide_eq_true c10
                clear c10
                have H' := Aside0.mk H
                clear H
                have p502 : 0 ≤ (x8_2 : Int) := of_decide_eq_true (by first | (with_reducible assumption) | assumption)
                have q502 : x8_2 < (l0.length : Int) := of_decide_eq_true (by first | (with_reducible assumption) | assumption)
                obtain ⟨ad502, e502, hx502_0⟩ := Kd.at_int HR0.out x8_2 p502 q502
                cases e502
                replace hx502_0 := (HB.out.cell (World.block_lt_of_cell? w _ hx502_0)).trans hx502_0
                replace p502 := eq_true p502
                replace q502 := eq_true q502
                go_wp2
                repeat (go_quiet (fail); try go_wp2)
                go_meet
                case rel => exact ⟨_, (true), (by first | rfl | (simp; done) | (simp [*]; done) | (simp [wrap64]; done)), H', ⟨by have := HJ2.out; have := HK2.out; first | omega | exact Nat.le_refl _⟩, ⟨by (with_reducible repeat (first | apply Kd.R_alloc | apply Kd.R_drewN | apply Kd.R_drew)); exact HO_7.out⟩, ⟨by exact qW HB.out⟩⟩
              · rw [if_neg c10] at H
                have c10b0 : decide ((rd l0 x8_2) < (-100)) = false := decide_eq_false c10
                clear c10
                have H' := Aside0.mk H
                clear H
                have p502 : 0 ≤ (x8_2 : Int) := of_decide_eq_true (by first | (with_reducible assumption) | assumption)
                have q502 : x8_2 < (l0.length : Int) := of_decide_eq_true (by first | (with_reducible assumption) | assumption)
                obtain ⟨ad502, e502, hx502_0⟩ := Kd.at_int HR0.out x8_2 p502 q502
                cases e502
                replace hx502_0 := (HB.out.cell (World.block_lt_of_cell? w _ hx502_0)).trans hx502_0
                replace p502 := eq_true p502
                replace q502 := eq_true q502
                have p503 : 0 ≤ (x8_2 : Int) := of_decide_eq_true (by first | (with_reducible assumption) | assumption)
                have q503 : x8_2 < (l0.length : Int) := of_decide_eq_true (by first | (with_reducible assumption) | assumption)
                obtain ⟨ad503, e503, hx503_0⟩ := Kd.at_int HR0.out x8_2 p503 q503
                obtain rfl : ad502 = ad503 := (by injection e503)
                replace hx503_0 := (HB.out.cell (World.block_lt_of_cell? w _ hx503_0)).trans hx503_0
                replace p503 := eq_true p503
                replace q503 := eq_true q503
                go_wp2
                repeat (go_quiet (fail); try go_wp2)
                go_meet
                case rel => exact ⟨_, (decide ((rd l0 x8_2) > 100)), (by first | rfl | (simp; done) | (simp [*]; done) | (simp [wrap64]; done)), H', ⟨by have := HJ2.out; have := HK2.out; first | omega | exact Nat.le_refl _⟩, ⟨by (with_reducible repeat (first | apply Kd.R_alloc | apply Kd.R_drewN | apply Kd.R_drew)); exact HO_7.out⟩, ⟨by exact qW HB.out⟩⟩
            · rw [if_neg c9] at H
              exact absurd H (by simp)
          · rw [if_neg c8] at H
            exact absurd H (by simp)
         case rest =>
          clear HC7
          try clear c1
          try clear p2
          try clear c4
          try clear c4b0
          try clear c4b1
          try clear c5
          try clear p5
          try clear q5
          try clear hx5
          try clear c6
          try clear c6b0
          try clear c8
          try clear c8b0
          try clear c9
          try clear c9b0
          try clear c10
          try clear c10b0
          try clear hx502_0
          try clear hx503_0
          try clear p2
          try clear p502
          try clear p503
          try clear q502
          try clear q503
          obtain ⟨kq, x39_6, rfl, HA, HJ6, HO_7, HB⟩ := hcut
          cases kq with
          | zero => exact absurd HA.out (by simp [partitaref23_Slope.j2])
          | succ kj6 =>
           have H := HA.out
           clear HA
           simp only [partitaref23_Slope.j2] at H
           by_cases c11 : x39_6 = true
           · subst c11
             have H1 : (some (([] : List Int), 230)) = some (r1, r2) := by rw [if_pos rfl] at H; exact H
             clear H
             have H := H1
             clear H1
             simp only [Option.some.injEq, Prod.mk.injEq] at H
             obtain ⟨rfl, rfl⟩ := H
             go_wp2
             repeat (go_quiet (fail); try go_wp2)
             go_ret2
             exact ⟨_, by first | rfl | (simp [errW_none, errW_some] <;> rfl) | (simp [*, errW_none, errW_some] <;> rfl), by first | exact Kd.R_nil _ _ _ _ _ | exact Kd.N_nil _ _ _ _ _ | exact Kd.V_nil _ _ _ _ _ | exact Kd.Q_nil _ _ _ _ _ | exact Kd.S_nil _ _ _ _ _, by exact qW HB.out⟩
           · replace c11 := Bool.eq_false_iff.mpr c11
             subst c11
             have H1 : (if a1 = true then (if 0 ≤ x8_2 then (if x8_2 < (l0.length : Int) then (if x7_2.length < 17592186044416 then (partitaref23_Slope.l0 kj6 l0 a1 (l0.length : Int) (x7_2 ++ [rd l0 x8_2]) (wrap64 (x8_2 + 1))) else (none)) else (none)) else (none)) else (if 0 ≤ x8_2 then (if x8_2 < (l0.length : Int) then (if x7_2.length < 17592186044416 then (partitaref23_Slope.l0 kj6 l0 a1 (l0.length : Int) (x7_2 ++ [wrap64 (-(rd l0 x8_2))]) (wrap64 (x8_2 + 1))) else (none)) else (none)) else (none))) = some (r1, r2) := by rw [if_neg (show ¬ (false = true) by decide)] at H; exact H
             clear H
             have H := H1
             clear H1
             by_cases c12 : a1 = true
             · subst c12
               have H1 : (if 0 ≤ x8_2 then (if x8_2 < (l0.length : Int) then (if x7_2.length < 17592186044416 then (partitaref23_Slope.l0 kj6 l0 true (l0.length : Int) (x7_2 ++ [rd l0 x8_2]) (wrap64 (x8_2 + 1))) else (none)) else (none)) else (none)) = some (r1, r2) := by rw [if_pos rfl] at H; exact H
               clear H
               have H := H1
               clear H1
               by_cases c13 : 0 ≤ x8_2
               · rw [if_pos c13] at H
                 have c13b0 : decide (0 ≤ x8_2) = true := decide_eq_true c13
                 clear c13
                 by_cases c14 : x8_2 < (l0.length : Int)
                 · rw [if_pos c14] at H
                   have c14b0 : decide (x8_2 < (l0.length : Int)) = true := decide_eq_true c14
                   clear c14
                   by_cases c15 : x7_2.length < 17592186044416
                   · rw [if_pos c15] at H
                     have LMc15 := Aside0.mk c15
                     clear c15
                     obtain ⟨y505, hy505⟩ : ∃ y_ : List Int, y_ = (x7_2 ++ [rd l0 x8_2]) := ⟨_, rfl⟩
                     replace H : (partitaref23_Slope.l0 kj6 l0 true (l0.length : Int) y505 (wrap64 (x8_2 + 1))) = some (r1, r2) := by first | (rw [hy505]; with_reducible exact H) | (have H2_ := (Option.bind_some _ _).symm.trans H; rw [hy505]; with_reducible exact H2_) | (have H2_ := (Option.bind_some _ _).symm.trans H; with_reducible exact H2_) | with_reducible exact H | (rw [hy505]; exact H) | exact H
                     have Ny505 := Aside0.mk hy505
                     clear hy505
                     have H' := Aside0.mk H
                     clear H
                     have p504 : 0 ≤ (x8_2 : Int) := of_decide_eq_true (by first | (with_reducible assumption) | assumption)
                     have q504 : x8_2 < (l0.length : Int) := of_decide_eq_true (by first | (with_reducible assumption) | assumption)
                     obtain ⟨ad504, e504, hx504_0⟩ := Kd.at_int HR0.out x8_2 p504 q504
                     cases e504
                     replace hx504_0 := (HB.out.cell (World.block_lt_of_cell? w _ hx504_0)).trans hx504_0
                     replace p504 := eq_true p504
                     replace q504 := eq_true q504
                     go_wp2_with (first | ((with_reducible refine gate_builtin (b := .append) (xs := #[.tmp 41, .tmp 46]) rfl ?_); at_builtin; refine Kd.R_append (Kd.int .i64) (w0 := w) w.heap.size rfl (.tmp 41) (.tmp 46) 22 3 (.int .i64 0) 8 rfl Tryz.underlying22 info3 rfl (by decide) (by omega) u7 x7_2 (rd l0 x8_2) [.int .i64 (rd l0 x8_2)] (fun _ => True) (fun _ => False) rfl rfl ?aP (fun _ hk => hk.elim) ?aF ?aO ?aB ?aS ?aL ?_; (case aP => exact rfl); (case aB => exact (qW HB.out)); (case aF => exact (fun _ _ => trivial)); (case aO => exact (qR HO_7.out)); (case aS => exact (below_size (qW HB.out))); (case aL => have := LMc15.out; omega); intro v506 w16 ho hb hg hat; rw [← Ny505.out] at ho; replace HB := Aside0.mk (hb); have HO507 := Aside0.mk (ho); clear HO_7; clear ho hb hg hat))
                     repeat (go_quiet (first | ((with_reducible refine gate_builtin (b := .append) (xs := #[.tmp 41, .tmp 46]) rfl ?_); at_builtin; refine Kd.R_append (Kd.int .i64) (w0 := w) w.heap.size rfl (.tmp 41) (.tmp 46) 22 3 (.int .i64 0) 8 rfl Tryz.underlying22 info3 rfl (by decide) (by omega) u7 x7_2 (rd l0 x8_2) [.int .i64 (rd l0 x8_2)] (fun _ => True) (fun _ => False) rfl rfl ?aP (fun _ hk => hk.elim) ?aF ?aO ?aB ?aS ?aL ?_; (case aP => exact rfl); (case aB => exact (qW HB.out)); (case aF => exact (fun _ _ => trivial)); (case aO => exact (qR HO_7.out)); (case aS => exact (below_size (qW HB.out))); (case aL => have := LMc15.out; omega); intro v506 w16 ho hb hg hat; rw [← Ny505.out] at ho; replace HB := Aside0.mk (hb); have HO507 := Aside0.mk (ho); clear HO_7; clear ho hb hg hat)); try go_wp2_with (first | ((with_reducible refine gate_builtin (b := .append) (xs := #[.tmp 41, .tmp 46]) rfl ?_); at_builtin; refine Kd.R_append (Kd.int .i64) (w0 := w) w.heap.size rfl (.tmp 41) (.tmp 46) 22 3 (.int .i64 0) 8 rfl Tryz.underlying22 info3 rfl (by decide) (by omega) u7 x7_2 (rd l0 x8_2) [.int .i64 (rd l0 x8_2)] (fun _ => True) (fun _ => False) rfl rfl ?aP (fun _ hk => hk.elim) ?aF ?aO ?aB ?aS ?aL ?_; (case aP => exact rfl); (case aB => exact (qW HB.out)); (case aF => exact (fun _ _ => trivial)); (case aO => exact (qR HO_7.out)); (case aS => exact (below_size (qW HB.out))); (case aL => have := LMc15.out; omega); intro v506 w16 ho hb hg hat; rw [← Ny505.out] at ho; replace HB := Aside0.mk (hb); have HO507 := Aside0.mk (ho); clear HO_7; clear ho hb hg hat)))
                     go_roundg kj6
                     case measure => have := HJ2.out; have := HK2.out; have := HJ6.out; omega
                     case rel => exact ⟨(y505), (wrap64 (x8_2 + 1)), (by first | rfl | (simp; done) | (simp [*]; done) | (simp [wrap64]; done)), H', ⟨by have := HJ2.out; have := HK2.out; have := HJ6.out; omega⟩, ⟨by (with_reducible repeat (first | apply Kd.R_alloc | apply Kd.R_drewN | apply Kd.R_drew)); exact HO507.out⟩, ⟨by exact qW HB.out⟩⟩
                   · rw [if_neg c15] at H
                     exact absurd H (by simp)
                 · rw [if_neg c14] at H
                   exact absurd H (by simp)
               · rw [if_neg c13] at H
                 exact absurd H (by simp)
             · replace c12 := Bool.eq_false_iff.mpr c12
               subst c12
               have H1 : (if 0 ≤ x8_2 then (if x8_2 < (l0.length : Int) then (if x7_2.length < 17592186044416 then (partitaref23_Slope.l0 kj6 l0 false (l0.length : Int) (x7_2 ++ [wrap64 (-(rd l0 x8_2))]) (wrap64 (x8_2 + 1))) else (none)) else (none)) else (none)) = some (r1, r2) := by rw [if_neg (show ¬ (false = true) by decide)] at H; exact H
               clear H
               have H := H1
               clear H1
               by_cases c17 : 0 ≤ x8_2
               · rw [if_pos c17] at H
                 have c17b0 : decide (0 ≤ x8_2) = true := decide_eq_true c17
                 clear c17
                 by_cases c18 : x8_2 < (l0.length : Int)
                 · rw [if_pos c18] at H
                   have c18b0 : decide (x8_2 < (l0.length : Int)) = true := decide_eq_true c18
                   clear c18
                   by_cases c19 : x7_2.length < 17592186044416
                   · rw [if_pos c19] at H
                     have LMc19 := Aside0.mk c19
                     clear c19
                     obtain ⟨y509, hy509⟩ : ∃ y_ : List Int, y_ = (x7_2 ++ [wrap64 (-(rd l0 x8_2))]) := ⟨_, rfl⟩
                     replace H : (partitaref23_Slope.l0 kj6 l0 false (l0.length : Int) y509 (wrap64 (x8_2 + 1))) = some (r1, r2) := by first | (rw [hy509]; with_reducible exact H) | (have H2_ := (Option.bind_some _ _).symm.trans H; rw [hy509]; with_reducible exact H2_) | (have H2_ := (Option.bind_some _ _).symm.trans H; with_reducible exact H2_) | with_reducible exact H | (rw [hy509]; exact H) | exact H
                     have Ny509 := Aside0.mk hy509
                     clear hy509
                     have H' := Aside0.mk H
                     clear H
                     have p508 : 0 ≤ (x8_2 : Int) := of_decide_eq_true (by first | (with_reducible assumption) | assumption)
                     have q508 : x8_2 < (l0.length : Int) := of_decide_eq_true (by first | (with_reducible assumption) | assumption)
                     obtain ⟨ad508, e508, hx508_0⟩ := Kd.at_int HR0.out x8_2 p508 q508
                     cases e508
                     replace hx508_0 := (HB.out.cell (World.block_lt_of_cell? w _ hx508_0)).trans hx508_0
                     replace p508 := eq_true p508
                     replace q508 := eq_true q508
                     go_wp2_with (first | ((with_reducible refine gate_builtin (b := .append) (xs := #[.tmp 48, .tmp 54]) rfl ?_); at_builtin; refine Kd.R_append (Kd.int .i64) (w0 := w) w.heap.size rfl (.tmp 48) (.tmp 54) 22 3 (.int .i64 0) 8 rfl Tryz.underlying22 info3 rfl (by decide) (by omega) u7 x7_2 (wrap64 (-(rd l0 x8_2))) [.int .i64 (wrap64 (-(rd l0 x8_2)))] (fun _ => True) (fun _ => False) rfl rfl ?aP (fun _ hk => hk.elim) ?aF ?aO ?aB ?aS ?aL ?_; (case aP => exact rfl); (case aB => exact (qW HB.out)); (case aF => exact (fun _ _ => trivial)); (case aO => exact (qR HO_7.out)); (case aS => exact (below_size (qW HB.out))); (case aL => have := LMc19.out; omega); intro v510 w20 ho hb hg hat; rw [← Ny509.out] at ho; replace HB := Aside0.mk (hb); have HO511 := Aside0.mk (ho); clear HO_7; clear ho hb hg hat))
                     repeat (go_quiet (first | ((with_reducible refine gate_builtin (b := .append) (xs := #[.tmp 48, .tmp 54]) rfl ?_); at_builtin; refine Kd.R_append (Kd.int .i64) (w0 := w) w.heap.size rfl (.tmp 48) (.tmp 54) 22 3 (.int .i64 0) 8 rfl Tryz.underlying22 info3 rfl (by decide) (by omega) u7 x7_2 (wrap64 (-(rd l0 x8_2))) [.int .i64 (wrap64 (-(rd l0 x8_2)))] (fun _ => True) (fun _ => False) rfl rfl ?aP (fun _ hk => hk.elim) ?aF ?aO ?aB ?aS ?aL ?_; (case aP => exact rfl); (case aB => exact (qW HB.out)); (case aF => exact (fun _ _ => trivial)); (case aO => exact (qR HO_7.out)); (case aS => exact (below_size (qW HB.out))); (case aL => have := LMc19.out; omega); intro v510 w20 ho hb hg hat; rw [← Ny509.out] at ho; replace HB := Aside0.mk (hb); have HO511 := Aside0.mk (ho); clear HO_7; clear ho hb hg hat)); try go_wp2_with (first | ((with_reducible refine gate_builtin (b := .append) (xs := #[.tmp 48, .tmp 54]) rfl ?_); at_builtin; refine Kd.R_append (Kd.int .i64) (w0 := w) w.heap.size rfl (.tmp 48) (.tmp 54) 22 3 (.int .i64 0) 8 rfl Tryz.underlying22 info3 rfl (by decide) (by omega) u7 x7_2 (wrap64 (-(rd l0 x8_2))) [.int .i64 (wrap64 (-(rd l0 x8_2)))] (fun _ => True) (fun _ => False) rfl rfl ?aP (fun _ hk => hk.elim) ?aF ?aO ?aB ?aS ?aL ?_; (case aP => exact rfl); (case aB => exact (qW HB.out)); (case aF => exact (fun _ _ => trivial)); (case aO => exact (qR HO_7.out)); (case aS => exact (below_size (qW HB.out))); (case aL => have := LMc19.out; omega); intro v510 w20 ho hb hg hat; rw [← Ny509.out] at ho; replace HB := Aside0.mk (hb); have HO511 := Aside0.mk (ho); clear HO_7; clear ho hb hg hat)))
                     go_roundg kj6
                     case measure => have := HJ2.out; have := HK2.out; have := HJ6.out; omega
                     case rel => exact ⟨(y509), (wrap64 (x8_2 + 1)), (by first | rfl | (simp; done) | (simp [*]; done) | (simp [wrap64]; done)), H', ⟨by have := HJ2.out; have := HK2.out; have := HJ6.out; omega⟩, ⟨by (with_reducible repeat (first | apply Kd.R_alloc | apply Kd.R_drewN | apply Kd.R_drew)); exact HO511.out⟩, ⟨by exact qW HB.out⟩⟩
                   · rw [if_neg c19] at H
                     exact absurd H (by simp)
                 · rw [if_neg c18] at H
                   exact absurd H (by simp)
               · rw [if_neg c17] at H
                 exact absurd H (by simp)
       · rw [if_neg c6] at H
         have c6b0 : decide (x8_2 < (l0.length : Int)) = false := decide_eq_false c6
         clear c6
         obtain ⟨ji21, hji21⟩ : ∃ j_ : Int, (wrap64 ((l0.length : Int) - 1)) = j_ := ⟨_, rfl⟩
         replace H : (if 0 ≤ (ji21) then (if (ji21) < (x7_2.length : Int) then (if 0 < (x7_2.length : Int) then (partitaref23_Slope.l1 k2 a1 (l0.length : Int) x7_2 (mn (mx (wrap64 ((rd x7_2 (ji21)) - (rd x7_2 0))) (-2)) 2) (-1000) 0) else (none)) else (none)) else (none)) = some (r1, r2) := by first | (rw [hji21] at H; exact H) | (simp only [hji21] at H ⊢; exact H)
         have hji21w : (IntKind.i64.wrap ((l0.length : Int) - 1)) = ji21 := (i64_w _).trans hji21
         by_cases c22 : 0 ≤ (ji21)
         · rw [if_pos c22] at H
           have c22b0 : decide (0 ≤ (ji21)) = true := decide_eq_true c22
           clear c22
           by_cases c23 : (ji21) < (x7_2.length : Int)
           · rw [if_pos c23] at H
             have c23b0 : decide ((ji21) < (x7_2.length : Int)) = true := decide_eq_true c23
             clear c23
             by_cases c24 : 0 < (x7_2.length : Int)
             · rw [if_pos c24] at H
               have c24b0 : decide (0 < (x7_2.length : Int)) = true := decide_eq_true c24
               have c24b1 : decide (0 < x7_2.length) = true := decide_eq_true (by omega)
               clear c24
               obtain ⟨ji25, hji25⟩ : ∃ j_ : Int, (mx (wrap64 ((rd x7_2 (ji21)) - (rd x7_2 0))) (-2)) = j_ := ⟨_, rfl⟩
               replace H : (partitaref23_Slope.l1 k2 a1 (l0.length : Int) x7_2 (mn (ji25) 2) (-1000) 0) = some (r1, r2) := by first | (rw [hji25] at H; exact H) | (simp only [hji25] at H ⊢; exact H)
               have hji25_ : (if (wrap64 ((rd x7_2 (ji21)) - (rd x7_2 0))) < (-2) then (-2) else (wrap64 ((rd x7_2 (ji21)) - (rd x7_2 0)))) = ji25 := hji25
               obtain ⟨ji26, hji26⟩ : ∃ j_ : Int, (mn (ji25) 2) = j_ := ⟨_, rfl⟩
               replace H : (partitaref23_Slope.l1 k2 a1 (l0.length : Int) x7_2 ji26 (-1000) 0) = some (r1, r2) := by first | (rw [hji26] at H; exact H) | (simp only [hji26] at H ⊢; exact H)
               have hji26_ : (if 2 < (ji25) then 2 else (ji25)) = ji26 := hji26
               have H' := Aside0.mk H
               clear H
               obtain ⟨Ao27, co27, eo27⟩ := Kd.R_slice HO_7.out
               subst eo27
               have p512 : 0 ≤ ((ji21) : Int) := of_decide_eq_true (by first | (with_reducible assumption) | assumption)
               have q512 : (ji21) < (x7_2.length : Int) := of_decide_eq_true (by first | (with_reducible assumption) | assumption)
               obtain ⟨ad512, e512, hx512_0⟩ := Kd.at_int (Kd.R_reads' HO_7.out).2.2 (ji21) p512 q512
               cases e512
               replace p512 := eq_true p512
               replace q512 := eq_true q512
               have p513 : 0 ≤ (0 : Int) := (by omega)
               have q513 : 0 < (x7_2.length : Int) := of_decide_eq_true (by first | (with_reducible assumption) | assumption)
               obtain ⟨ad513, e513, hx513_0⟩ := Kd.at_int (Kd.R_reads' HO_7.out).2.2 0 p513 q513
               obtain rfl : ad512 = ad513 := (by injection e513)
               have qi513 : (0 < x7_2.length) = True := eq_true (by omega)
               (try rw [show ((0 : Int)).toNat = 0 from rfl] at hx513_0)
               (try rw [Addr.add_zero'] at hx513_0)
               replace p513 := eq_true p513
               replace q513 := eq_true q513
               go_wp2
               repeat (go_quiet (fail); try go_wp2)
               go_loopg [10, 11] k2 (fun kq v10 v11 w' => ∃ (x10_3 : Int) (x11_3 : Int), v10 = .int .i64 x10_3 ∧ v11 = .int .i64 x11_3 ∧ Aside0 (partitaref23_Slope.l1 kq a1 (l0.length : Int) x7_2 ji26 x10_3 x11_3 = some (r1, r2)) ∧ Aside0 (kq ≤ k2) ∧ Aside0 (Kd.R (Kd.int .i64) 3 w' w.heap.size (fun _ => True) (.slice (some ad512) x7_2.length co27) x7_2) ∧ Aside0 (Below w.heap.size w w'))
               case atStart => exact ⟨((-1000)), (0), (by first | rfl | (simp; done) | (simp [*]; done) | (simp [wrap64]; done)), (by first | rfl | (simp; done) | (simp [*]; done) | (simp [wrap64]; done)), H', ⟨Nat.le_refl _⟩, ⟨by (with_reducible repeat (first | apply Kd.R_alloc | apply Kd.R_drewN | apply Kd.R_drew)); exact HO_7.out⟩, ⟨by exact qW HB.out⟩⟩
               case round =>
                clear H'
                try clear c1
                try clear c2
                try clear p2
                try clear c4
                try clear c4b0
                try clear c4b1
                try clear c5
                try clear p5
                try clear q5
                try clear hx5
                try clear qi5
                try clear c6
                try clear c6b0
                try clear p6
                try clear c8
                try clear c8b0
                try clear c9
                try clear c9b0
                try clear c10
                try clear c10b0
                try clear c11
                try clear c12
                try clear c13
                try clear c13b0
                try clear c14
                try clear c14b0
                try clear c15
                try clear c16
                try clear c17
                try clear c17b0
                try clear c18
                try clear c18b0
                try clear c19
                try clear c22
                try clear c22b0
                try clear c23
                try clear c23b0
                try clear c24
                try clear c24b0
                try clear c24b1
                try clear hx502_0
                try clear hx503_0
                try clear hx504_0
                try clear hx508_0
                try clear hx512_0
                try clear hx513_0
                try clear p2
                try clear p5
                try clear p502
                try clear p503
                try clear p504
                try clear p508
                try clear p512
                try clear p513
                try clear q5
                try clear q502
                try clear q503
                try clear q504
                try clear q508
                try clear q512
                try clear q513
                obtain ⟨x10_3, x11_3, rfl, rfl, HA, HK3, HO_7, HB⟩ := hrel
                cases gk with
                | zero => exact absurd HA.out (by simp [partitaref23_Slope.l1])
                | succ k3 =>
                 have H := HA.out
                 clear HA
                 simp only [partitaref23_Slope.l1] at H
                 by_cases c28 : x11_3 < (l0.length : Int)
                 · rw [if_pos c28] at H
                   have c28b0 : decide (x11_3 < (l0.length : Int)) = true := decide_eq_true c28
                   clear c28
                   by_cases c29 : 0 ≤ x11_3
                   · rw [if_pos c29] at H
                     have c29b0 : decide (0 ≤ x11_3) = true := decide_eq_true c29
                     clear c29
                     by_cases c30 : x11_3 < (x7_2.length : Int)
                     · rw [if_pos c30] at H
                       have c30b0 : decide (x11_3 < (x7_2.length : Int)) = true := decide_eq_true c30
                       clear c30
                       replace H := Option.bind_eq_some_iff.mp H
                       obtain ⟨t515, A310, H⟩ := H
                       replace H : (partitaref23_Slope.l1 k3 a1 (l0.length : Int) x7_2 ji26 (mx x10_3 (wrap64 ((wrap64 ((rd x7_2 x11_3) + 5)) - t515))) (wrap64 (x11_3 + 1))) = some (r1, r2) := H
                       have A31 := Aside0.mk A310
                       clear A310
                       obtain ⟨ji32, hji32⟩ : ∃ j_ : Int, (mx x10_3 (wrap64 ((wrap64 ((rd x7_2 x11_3) + 5)) - t515))) = j_ := ⟨_, rfl⟩
                       replace H : (partitaref23_Slope.l1 k3 a1 (l0.length : Int) x7_2 ji26 ji32 (wrap64 (x11_3 + 1))) = some (r1, r2) := by first | (rw [hji32] at H; exact H) | (simp only [hji32] at H ⊢; exact H)
                       (try rw [hji32] at A31)
                       have hji32_ : (if x10_3 < (wrap64 ((wrap64 ((rd x7_2 x11_3) + 5)) - t515)) then (wrap64 ((wrap64 ((rd x7_2 x11_3) + 5)) - t515)) else x10_3) = ji32 := hji32
                       have H' := Aside0.mk H
                       clear H
                       have p514 : 0 ≤ (x11_3 : Int) := of_decide_eq_true (by first | (with_reducible assumption) | assumption)
                       have q514 : x11_3 < (x7_2.length : Int) := of_decide_eq_true (by first | (with_reducible assumption) | assumption)
                       obtain ⟨ad514, e514, hx514_0⟩ := Kd.at_int (Kd.R_reads' HO_7.out).2.2 x11_3 p514 q514
                       obtain rfl : ad512 = ad514 := (by injection e514)
                       replace p514 := eq_true p514
                       replace q514 := eq_true q514
                       have whji32_ := hji32_
                       simp only [← i64_w] at whji32_
                       go_wp2
                       go_region_held3 (fun w' => w'.cell? (ad512.add (x11_3).toNat) = some (.int .i64 (rd x7_2 x11_3))) (first | exact hx514_0 | go_keep) (((try rw [← hji21]); (try rw [i64_w]); (with_reducible refine (partitaref23_floor.calls (wrap64 (ji26 * x11_3)) (wrap64 ((l0.length : Int) - 1)) t515 _ A31.out).mono ?_); rintro e w' ⟨rfl, ⟨nd, rfl⟩⟩))
                       try go_wp2
                       go_roundg k3
                       case measure => have := HJ2.out; have := HK2.out; have := HK3.out; omega
                       case rel => exact ⟨(ji32), (wrap64 (x11_3 + 1)), (by first | rfl | (simp; done) | (simp only [← hji32] <;> (first | rfl | simp)) | (simp [*]; done)), (by first | rfl | (simp; done) | (simp [*]; done) | (simp [wrap64]; done)), H', ⟨by have := HJ2.out; have := HK2.out; have := HK3.out; omega⟩, ⟨by (with_reducible repeat (first | apply Kd.R_alloc | apply Kd.R_drewN | apply Kd.R_drew)); exact HO_7.out⟩, ⟨by exact qW HB.out⟩⟩
                     · rw [if_neg c30] at H
                       exact absurd H (by simp)
                   · rw [if_neg c29] at H
                     exact absurd H (by simp)
                 · rw [if_neg c28] at H
                   have c28b0 : decide (x11_3 < (l0.length : Int)) = false := decide_eq_false c28
                   clear c28
                   have H' := Aside0.mk H
                   clear H
                   go_wp2
                   repeat (go_quiet (fail); try go_wp2)
                   go_loopg [12, 13] k3 (fun kq v12 v13 w' => ∃ (x12_4 : List Int) (x13_4 : Int), v13 = .int .i64 x13_4 ∧ Aside0 (partitaref23_Slope.l2 kq a1 (l0.length : Int) ji26 x10_3 x12_4 x13_4 = some (r1, r2)) ∧ Aside0 (kq ≤ k3) ∧ Aside0 (Kd.R (Kd.int .i64) 3 w' w.heap.size (fun _ => True) v12 x12_4) ∧ Aside0 (Below w.heap.size w w'))
                   case atStart => exact ⟨(([] : List Int)), (0), (by first | rfl | (simp; done) | (simp [*]; done) | (simp [wrap64]; done)), H', ⟨Nat.le_refl _⟩, ⟨by first | exact Kd.R_nil _ _ _ _ _ | exact Kd.N_nil _ _ _ _ _ | exact Kd.V_nil _ _ _ _ _ | exact Kd.Q_nil _ _ _ _ _ | exact Kd.S_nil _ _ _ _ _⟩, ⟨by exact qW HB.out⟩⟩
                   case round =>
                    clear H'
                    try clear c1
                    try clear c2
                    try clear p2
                    try clear c3
                    try clear c4
                    try clear c4b0
                    try clear c4b1
                    try clear c5
                    try clear p5
                    try clear q5
                    try clear hx5
                    try clear qi5
                    try clear c6
                    try clear c6b0
                    try clear p6
                    try clear c8
                    try clear c8b0
                    try clear c9
                    try clear c9b0
                    try clear c10
                    try clear c10b0
                    try clear c11
                    try clear c12
                    try clear c13
                    try clear c13b0
                    try clear c14
                    try clear c14b0
                    try clear c15
                    try clear c16
                    try clear c17
                    try clear c17b0
                    try clear c18
                    try clear c18b0
                    try clear c19
                    try clear c22
                    try clear c22b0
                    try clear c23
                    try clear c23b0
                    try clear c24
                    try clear c24b0
                    try clear c24b1
                    try clear c28
                    try clear c28b0
                    try clear c29
                    try clear c29b0
                    try clear c30
                    try clear c30b0
                    try clear hx502_0
                    try clear hx503_0
                    try clear hx504_0
                    try clear hx508_0
                    try clear hx512_0
                    try clear hx513_0
                    try clear hx514_0
                    try clear p2
                    try clear p5
                    try clear p502
                    try clear p503
                    try clear p504
                    try clear p508
                    try clear p512
                    try clear p513
                    try clear p514
                    try clear p6
                    try clear q5
                    try clear q502
                    try clear q503
                    try clear q504
                    try clear q508
                    try clear q512
                    try clear q513
                    try clear q514
                    obtain ⟨x12_4, x13_4, rfl, HA, HK4, HO_12, HB⟩ := hrel
                    cases gk with
                    | zero => exact absurd HA.out (by simp [partitaref23_Slope.l2])
                    | succ k4 =>
                     have H := HA.out
                     clear HA
                     simp only [partitaref23_Slope.l2] at H
                     by_cases c33 : x13_4 < (l0.length : Int)
                     · rw [if_pos c33] at H
                       have c33b0 : decide (x13_4 < (l0.length : Int)) = true := decide_eq_true c33
                       clear c33
                       replace H := Option.bind_eq_some_iff.mp H
                       obtain ⟨t516, A340, H⟩ := H
                       replace H : (if a1 = true then (if x12_4.length < 17592186044416 then (partitaref23_Slope.l2 k4 a1 (l0.length : Int) ji26 x10_3 (x12_4 ++ [wrap64 (x10_3 + t516)]) (wrap64 (x13_4 + 1))) else (none)) else (if x12_4.length < 17592186044416 then (partitaref23_Slope.l2 k4 a1 (l0.length : Int) ji26 x10_3 (x12_4 ++ [wrap64 (-(wrap64 (x10_3 + t516)))]) (wrap64 (x13_4 + 1))) else (none))) = some (r1, r2) := H
                       have A34 := Aside0.mk A340
                       clear A340
                       by_cases c35 : a1 = true
                       · subst c35
                         have H1 : (if x12_4.length < 17592186044416 then (partitaref23_Slope.l2 k4 true (l0.length : Int) ji26 x10_3 (x12_4 ++ [wrap64 (x10_3 + t516)]) (wrap64 (x13_4 + 1))) else (none)) = some (r1, r2) := by rw [if_pos rfl] at H; exact H
                         clear H
                         have H := H1
                         clear H1
                         by_cases c36 : x12_4.length < 17592186044416
                         · rw [if_pos c36] at H
                           have LMc36 := Aside0.mk c36
                           clear c36
                           obtain ⟨y517, hy517⟩ : ∃ y_ : List Int, y_ = (x12_4 ++ [wrap64 (x10_3 + t516)]) := ⟨_, rfl⟩
                           replace H : (partitaref23_Slope.l2 k4 true (l0.length : Int) ji26 x10_3 y517 (wrap64 (x13_4 + 1))) = some (r1, r2) := by first | (rw [hy517]; with_reducible exact H) | (have H2_ := (Option.bind_some _ _).symm.trans H; rw [hy517]; with_reducible exact H2_) | (have H2_ := (Option.bind_some _ _).symm.trans H; with_reducible exact H2_) | with_reducible exact H | (rw [hy517]; exact H) | exact H
                           have Ny517 := Aside0.mk hy517
                           clear hy517
                           have H' := Aside0.mk H
                           clear H
                           go_wp2_with (first | (go_at_call 37; (try rw [← hji21]); (with_reducible refine (partitaref23_floor.calls (wrap64 (ji26 * x13_4)) (wrap64 ((l0.length : Int) - 1)) t516 _ A34.out).mono ?_); rintro e w' ⟨rfl, ⟨nd, rfl⟩⟩; (try first | exact ⟨rfl, _, World.drewN_drewN _ _ _⟩ | exact ⟨rfl, _, Eq.trans (World.drewN_drewN _ _ _) (congrArg (World.drewN _) (Nat.add_assoc _ _ _))⟩)) | ((with_reducible refine gate_builtin (b := .append) (xs := #[.tmp 103, .tmp 105]) rfl ?_); at_builtin; refine Kd.R_append (Kd.int .i64) (w0 := w) w.heap.size rfl (.tmp 103) (.tmp 105) 22 3 (.int .i64 0) 8 rfl Tryz.underlying22 info3 rfl (by decide) (by omega) u12 x12_4 (wrap64 (x10_3 + t516)) [.int .i64 (wrap64 (x10_3 + t516))] (fun _ => True) (fun _ => False) rfl rfl ?aP (fun _ hk => hk.elim) ?aF ?aO ?aB ?aS ?aL ?_; (case aP => exact rfl); (case aB => exact (qW HB.out)); (case aF => exact (fun _ _ => trivial)); (case aO => exact (qR HO_12.out)); (case aS => exact (below_size (qW HB.out))); (case aL => have := LMc36.out; omega); intro v518 w37 ho hb hg hat; rw [← Ny517.out] at ho; replace HB := Aside0.mk (hb); have HO519 := Aside0.mk (ho); clear HO_12; clear ho hb hg hat))
                           repeat (go_quiet (first | (go_at_call 37; (try rw [← hji21]); (with_reducible refine (partitaref23_floor.calls (wrap64 (ji26 * x13_4)) (wrap64 ((l0.length : Int) - 1)) t516 _ A34.out).mono ?_); rintro e w' ⟨rfl, ⟨nd, rfl⟩⟩; (try first | exact ⟨rfl, _, World.drewN_drewN _ _ _⟩ | exact ⟨rfl, _, Eq.trans (World.drewN_drewN _ _ _) (congrArg (World.drewN _) (Nat.add_assoc _ _ _))⟩)) | ((with_reducible refine gate_builtin (b := .append) (xs := #[.tmp 103, .tmp 105]) rfl ?_); at_builtin; refine Kd.R_append (Kd.int .i64) (w0 := w) w.heap.size rfl (.tmp 103) (.tmp 105) 22 3 (.int .i64 0) 8 rfl Tryz.underlying22 info3 rfl (by decide) (by omega) u12 x12_4 (wrap64 (x10_3 + t516)) [.int .i64 (wrap64 (x10_3 + t516))] (fun _ => True) (fun _ => False) rfl rfl ?aP (fun _ hk => hk.elim) ?aF ?aO ?aB ?aS ?aL ?_; (case aP => exact rfl); (case aB => exact (qW HB.out)); (case aF => exact (fun _ _ => trivial)); (case aO => exact (qR HO_12.out)); (case aS => exact (below_size (qW HB.out))); (case aL => have := LMc36.out; omega); intro v518 w37 ho hb hg hat; rw [← Ny517.out] at ho; replace HB := Aside0.mk (hb); have HO519 := Aside0.mk (ho); clear HO_12; clear ho hb hg hat)); try go_wp2_with (first | (go_at_call 37; (try rw [← hji21]); (with_reducible refine (partitaref23_floor.calls (wrap64 (ji26 * x13_4)) (wrap64 ((l0.length : Int) - 1)) t516 _ A34.out).mono ?_); rintro e w' ⟨rfl, ⟨nd, rfl⟩⟩; (try first | exact ⟨rfl, _, World.drewN_drewN _ _ _⟩ | exact ⟨rfl, _, Eq.trans (World.drewN_drewN _ _ _) (congrArg (World.drewN _) (Nat.add_assoc _ _ _))⟩)) | ((with_reducible refine gate_builtin (b := .append) (xs := #[.tmp 103, .tmp 105]) rfl ?_); at_builtin; refine Kd.R_append (Kd.int .i64) (w0 := w) w.heap.size rfl (.tmp 103) (.tmp 105) 22 3 (.int .i64 0) 8 rfl Tryz.underlying22 info3 rfl (by decide) (by omega) u12 x12_4 (wrap64 (x10_3 + t516)) [.int .i64 (wrap64 (x10_3 + t516))] (fun _ => True) (fun _ => False) rfl rfl ?aP (fun _ hk => hk.elim) ?aF ?aO ?aB ?aS ?aL ?_; (case aP => exact rfl); (case aB => exact (qW HB.out)); (case aF => exact (fun _ _ => trivial)); (case aO => exact (qR HO_12.out)); (case aS => exact (below_size (qW HB.out))); (case aL => have := LMc36.out; omega); intro v518 w37 ho hb hg hat; rw [← Ny517.out] at ho; replace HB := Aside0.mk (hb); have HO519 := Aside0.mk (ho); clear HO_12; clear ho hb hg hat)))
                           go_roundg k4
                           case measure => have := HJ2.out; have := HK2.out; have := HK3.out; have := HK4.out; omega
                           case rel => exact ⟨(y517), (wrap64 (x13_4 + 1)), (by first | rfl | (simp; done) | (simp [*]; done) | (simp [wrap64]; done)), H', ⟨by have := HJ2.out; have := HK2.out; have := HK3.out; have := HK4.out; omega⟩, ⟨by (with_reducible repeat (first | apply Kd.R_alloc | apply Kd.R_drewN | apply Kd.R_drew)); exact HO519.out⟩, ⟨by exact qW HB.out⟩⟩
                         · rw [if_neg c36] at H
                           exact absurd H (by simp)
                       · replace c35 := Bool.eq_false_iff.mpr c35
                         subst c35
                         have H1 : (if x12_4.length < 17592186044416 then (partitaref23_Slope.l2 k4 false (l0.length : Int) ji26 x10_3 (x12_4 ++ [wrap64 (-(wrap64 (x10_3 + t516)))]) (wrap64 (x13_4 + 1))) else (none)) = some (r1, r2) := by rw [if_neg (show ¬ (false = true) by decide)] at H; exact H
                         clear H
                         have H := H1
                         clear H1
                         by_cases c38 : x12_4.length < 17592186044416
                         · rw [if_pos c38] at H
                           have LMc38 := Aside0.mk c38
                           clear c38
                           obtain ⟨y520, hy520⟩ : ∃ y_ : List Int, y_ = (x12_4 ++ [wrap64 (-(wrap64 (x10_3 + t516)))]) := ⟨_, rfl⟩
                           replace H : (partitaref23_Slope.l2 k4 false (l0.length : Int) ji26 x10_3 y520 (wrap64 (x13_4 + 1))) = some (r1, r2) := by first | (rw [hy520]; with_reducible exact H) | (have H2_ := (Option.bind_some _ _).symm.trans H; rw [hy520]; with_reducible exact H2_) | (have H2_ := (Option.bind_some _ _).symm.trans H; with_reducible exact H2_) | with_reducible exact H | (rw [hy520]; exact H) | exact H
                           have Ny520 := Aside0.mk hy520
                           clear hy520
                           have H' := Aside0.mk H
                           clear H
                           go_wp2_with (first | (go_at_call 37; (try rw [← hji21]); (with_reducible refine (partitaref23_floor.calls (wrap64 (ji26 * x13_4)) (wrap64 ((l0.length : Int) - 1)) t516 _ A34.out).mono ?_); rintro e w' ⟨rfl, ⟨nd, rfl⟩⟩; (try first | exact ⟨rfl, _, World.drewN_drewN _ _ _⟩ | exact ⟨rfl, _, Eq.trans (World.drewN_drewN _ _ _) (congrArg (World.drewN _) (Nat.add_assoc _ _ _))⟩)) | ((with_reducible refine gate_builtin (b := .append) (xs := #[.tmp 103, .tmp 105]) rfl ?_); at_builtin; refine Kd.R_append (Kd.int .i64) (w0 := w) w.heap.size rfl (.tmp 103) (.tmp 105) 22 3 (.int .i64 0) 8 rfl Tryz.underlying22 info3 rfl (by decide) (by omega) u12 x12_4 (wrap64 (-(wrap64 (x10_3 + t516)))) [.int .i64 (wrap64 (-(wrap64 (x10_3 + t516))))] (fun _ => True) (fun _ => False) rfl rfl ?aP (fun _ hk => hk.elim) ?aF ?aO ?aB ?aS ?aL ?_; (case aP => exact rfl); (case aB => exact (qW HB.out)); (case aF => exact (fun _ _ => trivial)); (case aO => exact (qR HO_12.out)); (case aS => exact (below_size (qW HB.out))); (case aL => have := LMc38.out; omega); intro v521 w39 ho hb hg hat; rw [← Ny520.out] at ho; replace HB := Aside0.mk (hb); have HO522 := Aside0.mk (ho); clear HO_12; clear ho hb hg hat))
                           repeat (go_quiet (first | (go_at_call 37; (try rw [← hji21]); (with_reducible refine (partitaref23_floor.calls (wrap64 (ji26 * x13_4)) (wrap64 ((l0.length : Int) - 1)) t516 _ A34.out).mono ?_); rintro e w' ⟨rfl, ⟨nd, rfl⟩⟩; (try first | exact ⟨rfl, _, World.drewN_drewN _ _ _⟩ | exact ⟨rfl, _, Eq.trans (World.drewN_drewN _ _ _) (congrArg (World.drewN _) (Nat.add_assoc _ _ _))⟩)) | ((with_reducible refine gate_builtin (b := .append) (xs := #[.tmp 103, .tmp 105]) rfl ?_); at_builtin; refine Kd.R_append (Kd.int .i64) (w0 := w) w.heap.size rfl (.tmp 103) (.tmp 105) 22 3 (.int .i64 0) 8 rfl Tryz.underlying22 info3 rfl (by decide) (by omega) u12 x12_4 (wrap64 (-(wrap64 (x10_3 + t516)))) [.int .i64 (wrap64 (-(wrap64 (x10_3 + t516))))] (fun _ => True) (fun _ => False) rfl rfl ?aP (fun _ hk => hk.elim) ?aF ?aO ?aB ?aS ?aL ?_; (case aP => exact rfl); (case aB => exact (qW HB.out)); (case aF => exact (fun _ _ => trivial)); (case aO => exact (qR HO_12.out)); (case aS => exact (below_size (qW HB.out))); (case aL => have := LMc38.out; omega); intro v521 w39 ho hb hg hat; rw [← Ny520.out] at ho; replace HB := Aside0.mk (hb); have HO522 := Aside0.mk (ho); clear HO_12; clear ho hb hg hat)); try go_wp2_with (first | (go_at_call 37; (try rw [← hji21]); (with_reducible refine (partitaref23_floor.calls (wrap64 (ji26 * x13_4)) (wrap64 ((l0.length : Int) - 1)) t516 _ A34.out).mono ?_); rintro e w' ⟨rfl, ⟨nd, rfl⟩⟩; (try first | exact ⟨rfl, _, World.drewN_drewN _ _ _⟩ | exact ⟨rfl, _, Eq.trans (World.drewN_drewN _ _ _) (congrArg (World.drewN _) (Nat.add_assoc _ _ _))⟩)) | ((with_reducible refine gate_builtin (b := .append) (xs := #[.tmp 103, .tmp 105]) rfl ?_); at_builtin; refine Kd.R_append (Kd.int .i64) (w0 := w) w.heap.size rfl (.tmp 103) (.tmp 105) 22 3 (.int .i64 0) 8 rfl Tryz.underlying22 info3 rfl (by decide) (by omega) u12 x12_4 (wrap64 (-(wrap64 (x10_3 + t516)))) [.int .i64 (wrap64 (-(wrap64 (x10_3 + t516))))] (fun _ => True) (fun _ => False) rfl rfl ?aP (fun _ hk => hk.elim) ?aF ?aO ?aB ?aS ?aL ?_; (case aP => exact rfl); (case aB => exact (qW HB.out)); (case aF => exact (fun _ _ => trivial)); (case aO => exact (qR HO_12.out)); (case aS => exact (below_size (qW HB.out))); (case aL => have := LMc38.out; omega); intro v521 w39 ho hb hg hat; rw [← Ny520.out] at ho; replace HB := Aside0.mk (hb); have HO522 := Aside0.mk (ho); clear HO_12; clear ho hb hg hat)))
                           go_roundg k4
                           case measure => have := HJ2.out; have := HK2.out; have := HK3.out; have := HK4.out; omega
                           case rel => exact ⟨(y520), (wrap64 (x13_4 + 1)), (by first | rfl | (simp; done) | (simp [*]; done) | (simp [wrap64]; done)), H', ⟨by have := HJ2.out; have := HK2.out; have := HK3.out; have := HK4.out; omega⟩, ⟨by (with_reducible repeat (first | apply Kd.R_alloc | apply Kd.R_drewN | apply Kd.R_drew)); exact HO522.out⟩, ⟨by exact qW HB.out⟩⟩
                         · rw [if_neg c38] at H
                           exact absurd H (by simp)
                     · rw [if_neg c33] at H
                       have c33b0 : decide (x13_4 < (l0.length : Int)) = false := decide_eq_false c33
                       clear c33
                       simp only [Option.some.injEq, Prod.mk.injEq] at H
                       obtain ⟨rfl, rfl⟩ := H
                       go_wp2
                       repeat (go_quiet (fail); try go_wp2)
                       go_ret2
                       exact ⟨_, by first | rfl | (simp [errW_none, errW_some] <;> rfl) | (simp only [← hji21, ← hji25, ← hji26]; first | rfl | (simp [errW_none, errW_some] <;> rfl)) | (simp [*, errW_none, errW_some] <;> rfl), by (with_reducible repeat (first | apply Kd.R_alloc | apply Kd.R_drewN | apply Kd.R_drew)); exact HO_12.out, by exact qW HB.out⟩
             · rw [if_neg c24] at H
               exact absurd H (by simp)
           · rw [if_neg c23] at H
             exact absurd H (by simp)
         · rw [if_neg c22] at H
           exact absurd H (by simp)

end Go.Proofs.YtocjbedacnlaaaaGreatDoor.Q
