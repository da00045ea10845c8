-- Written by a program of this session (myprint.py), function by function.
import Derived.Test.YtbncdlnnjhadgaaQ0
import Derived.Test.YtbncdlnnjhadgaaQ1
import Derived.Test.YtbncdlnnjhadgaaQ2
import Derived.Test.YtbncdlnnjhadgaaQ3
import Derived.Test.YtbncdlnnjhadgaaQ4
import Derived.Test.YtbncdlnnjhadgaaQ5
import Derived.Test.YtbncdlnnjhadgaaQ6
import Derived.Test.YtbncdlnnjhadgaaQ9
namespace Go.Proofs.Ytbncdlnnjhadgaa.Q
open Go.RowKit Go.Proofs.YtbncdlnnjhadgaaW.PrintWords Go.Proofs.YtbncdlnnjhadgaaW.PrintLast Go.Proofs.YtbncdlnnjhadgaaW.PrintMore
attribute [local go_sem] max2_int min2_int max_two min_two max_three min_three max_four min_four   -- for this text's walks alone
set_option linter.unusedVariables false
set_option linter.unusedSimpArgs false

attribute [local go_sem high] eqA26
/-! ### partitalaw05_MeterAgain: function 6 -/
mutual
def partitalaw05_MeterAgain.j0 : Nat → Int → Int → Bool → Bool → Int → Int → List Int → Int → Int → Option (Bool)
 | 0, _, _, _, _, _, _, _, _, _ => none
 | k + 1, x2, x3, x9, x62, x343000, x343001, x343002, x347000, x347001 => if x62 = true then none else ((partitalaw05_place.f k x343000 x343001 x343002 x2 x3).bind fun bt355 => ((ratio_Sub.f x347000 x347001 bt355.1 bt355.2).bind fun bt358 => ((meter_Cut.f k x343000 x343001 x343002 bt355.1 bt355.2 bt358.1 bt358.2.1).bind fun bt362 => (if bt358.2.2 = 0 then (partitalaw05_MeterAgain.j1 k x9 bt362.1 (bt362.2 != 0) x343000 x343001 x343002 x347000 x347001 bt355.1 bt355.2) else (partitalaw05_MeterAgain.j1 k x9 bt362.1 true x343000 x343001 x343002 x347000 x347001 bt355.1 bt355.2)))))
def partitalaw05_MeterAgain.j1 : Nat → Bool → List (S26) → Bool → Int → Int → List Int → Int → Int → Int → Int → Option (Bool)
 | 0, _, _, _, _, _, _, _, _, _, _ => none
 | k + 1, x9, x15, x85, x343000, x343001, x343002, x347000, x347001, x358000, x358001 => if x85 = true then none else (partitalaw05_MeterAgain.l0 k x9 x15 0 x343000 x343001 x343002 x347000 x347001 x358000 x358001)
def partitalaw05_MeterAgain.l0 : Nat → Bool → List (S26) → Int → Int → Int → List Int → Int → Int → Int → Int → Option (Bool)
 | 0, _, _, _, _, _, _, _, _, _, _ => none
 | k + 1, x9, x15, x20, x343000, x343001, x343002, x347000, x347001, x358000, x358001 => if x20 < (x15.length : Int) then (if 0 ≤ x20 then ((meter_Cut.f k x343000 x343001 x343002 x358000 x358001 ((rd_T26 x15 x20).f0) ((rd_T26 x15 x20).f1)).bind fun bt367 => (if bt367.2 = 0 then (if (bt367.1.length : Int) = 1 then (if 0 < (bt367.1.length : Int) then (partitalaw05_MeterAgain.j3 k x9 x15 x20 (!(((rd_T26 bt367.1 0).f0) == ((rd_T26 x15 x20).f0)) || (!(((rd_T26 bt367.1 0).f1) == ((rd_T26 x15 x20).f1)))) x343000 x343001 x343002 x347000 x347001 x358000 x358001) else (none)) else (partitalaw05_MeterAgain.j3 k x9 x15 x20 true x343000 x343001 x343002 x347000 x347001 x358000 x358001)) else (partitalaw05_MeterAgain.j3 k x9 x15 x20 true x343000 x343001 x343002 x347000 x347001 x358000 x358001))) else (none)) else (if x9 = true then (some (x358000 == x347000 && (x358001 == x347001))) else none)
def partitalaw05_MeterAgain.j3 : Nat → Bool → List (S26) → Int → Bool → Int → Int → List Int → Int → Int → Int → Int → Option (Bool)
 | 0, _, _, _, _, _, _, _, _, _, _, _ => none
 | k + 1, x9, x15, x20, x118, x343000, x343001, x343002, x347000, x347001, x358000, x358001 => if x118 = true then none else (if 0 ≤ x20 then (if x20 < (x15.length : Int) then ((ratio_Add.f x358000 x358001 ((rd_T26 x15 x20).f0) ((rd_T26 x15 x20).f1)).bind fun bt374 => (if bt374.2.2 = 0 then (partitalaw05_MeterAgain.l0 k x9 x15 (wrap64 (x20 + 1)) x343000 x343001 x343002 x347000 x347001 bt374.1 bt374.2.1) else none)) else (none)) else (none))
end
def partitalaw05_MeterAgain.f (k : Nat) (a0_0 : Int) (a0_1 : Int) (l0_2 : List Int) (a1 : Bool) (a2 : Int) (a3 : Int) : Option (Bool) := (partitalaw05_awake.f k).bind fun t336 => ((partitalaw05_Meter.f k a0_0 a0_1 l0_2 a1).bind fun bt337 => ((meter_Length.f k bt337.1 bt337.2.1 bt337.2.2).bind fun bt343 => ((meter_Beats.f k bt337.1 bt337.2.1 bt337.2.2).bind fun bt347 => ((meter_Cut.f k bt337.1 bt337.2.1 bt337.2.2 0 1 bt343.1 bt343.2.1).bind fun bt351 => (if bt343.2.2 = 0 then (if bt347.2 = 0 then (if bt351.2 = 0 then (partitalaw05_MeterAgain.j0 k a2 a3 t336 ((bt351.1.length : Int) != (bt347.1.length : Int)) bt337.1 bt337.2.1 bt337.2.2 bt343.1 bt343.2.1) else (partitalaw05_MeterAgain.j0 k a2 a3 t336 true bt337.1 bt337.2.1 bt337.2.2 bt343.1 bt343.2.1)) else (partitalaw05_MeterAgain.j0 k a2 a3 t336 true bt337.1 bt337.2.1 bt337.2.2 bt343.1 bt343.2.1)) else (partitalaw05_MeterAgain.j0 k a2 a3 t336 true bt337.1 bt337.2.1 bt337.2.2 bt343.1 bt343.2.1))))))
theorem partitalaw05_MeterAgain.mono_l : ∀ k, (∀ y0 y1 y2 y3 y4 y5 y6 y7 y8, LeO (partitalaw05_MeterAgain.j0 k y0 y1 y2 y3 y4 y5 y6 y7 y8) (partitalaw05_MeterAgain.j0 (k + 1) y0 y1 y2 y3 y4 y5 y6 y7 y8)) ∧ (∀ y0 y1 y2 y3 y4 y5 y6 y7 y8 y9, LeO (partitalaw05_MeterAgain.j1 k y0 y1 y2 y3 y4 y5 y6 y7 y8 y9) (partitalaw05_MeterAgain.j1 (k + 1) y0 y1 y2 y3 y4 y5 y6 y7 y8 y9)) ∧ (∀ y0 y1 y2 y3 y4 y5 y6 y7 y8 y9, LeO (partitalaw05_MeterAgain.l0 k y0 y1 y2 y3 y4 y5 y6 y7 y8 y9) (partitalaw05_MeterAgain.l0 (k + 1) y0 y1 y2 y3 y4 y5 y6 y7 y8 y9)) ∧ (∀ y0 y1 y2 y3 y4 y5 y6 y7 y8 y9 y10, LeO (partitalaw05_MeterAgain.j3 k y0 y1 y2 y3 y4 y5 y6 y7 y8 y9 y10) (partitalaw05_MeterAgain.j3 (k + 1) y0 y1 y2 y3 y4 y5 y6 y7 y8 y9 y10))
 | 0 => ⟨fun _ _ _ _ _ _ _ _ _ r h => by simp [partitalaw05_MeterAgain.j0] at h, fun _ _ _ _ _ _ _ _ _ _ r h => by simp [partitalaw05_MeterAgain.j1] at h, fun _ _ _ _ _ _ _ _ _ _ r h => by simp [partitalaw05_MeterAgain.l0] at h, fun _ _ _ _ _ _ _ _ _ _ _ r h => by simp [partitalaw05_MeterAgain.j3] at h⟩
 | k + 1 => by
  obtain ⟨ih0, ih1, ih2, ih3⟩ := partitalaw05_MeterAgain.mono_l k
  refine ⟨?_, ?_, ?_, ?_⟩
  · intro y0 y1 y2 y3 y4 y5 y6 y7 y8
    unfold partitalaw05_MeterAgain.j0
    repeat' first
    | (with_reducible exact ih0 _ _ _ _ _ _ _ _ _)
    | (with_reducible exact ih1 _ _ _ _ _ _ _ _ _ _)
    | (with_reducible exact ih2 _ _ _ _ _ _ _ _ _ _)
    | (with_reducible exact ih3 _ _ _ _ _ _ _ _ _ _ _)
    | (with_reducible exact meter_Beats.mono _ _ _ _)
    | (with_reducible exact meter_Cut.mono _ _ _ _ _ _ _ _)
    | (with_reducible exact meter_Length.mono _ _ _ _)
    | (with_reducible exact partitalaw05_Meter.mono _ _ _ _ _)
    | (with_reducible exact partitalaw05_awake.mono _)
    | (with_reducible exact partitalaw05_place.mono _ _ _ _ _ _)
    | (with_reducible exact LeO.refl _)
    | (with_reducible exact LeO.none _)
    | (with_reducible refine LeO.ite ?_ ?_)
    | (with_reducible refine LeO.bind ?_ (fun _ => ?_))
    | exact ih0 _ _ _ _ _ _ _ _ _
    | exact ih1 _ _ _ _ _ _ _ _ _ _
    | exact ih2 _ _ _ _ _ _ _ _ _ _
    | exact ih3 _ _ _ _ _ _ _ _ _ _ _
    | exact meter_Beats.mono _ _ _ _
    | exact meter_Cut.mono _ _ _ _ _ _ _ _
    | exact meter_Length.mono _ _ _ _
    | exact partitalaw05_Meter.mono _ _ _ _ _
    | exact partitalaw05_awake.mono _
    | exact partitalaw05_place.mono _ _ _ _ _ _
    | exact LeO.none _
    | refine LeO.ite ?_ ?_
    | refine LeO.bind ?_ (fun _ => ?_)
  · intro y0 y1 y2 y3 y4 y5 y6 y7 y8 y9
    unfold partitalaw05_MeterAgain.j1
    repeat' first
    | (with_reducible exact ih0 _ _ _ _ _ _ _ _ _)
    | (with_reducible exact ih1 _ _ _ _ _ _ _ _ _ _)
    | (with_reducible exact ih2 _ _ _ _ _ _ _ _ _ _)
    | (with_reducible exact ih3 _ _ _ _ _ _ _ _ _ _ _)
    | (with_reducible exact meter_Beats.mono _ _ _ _)
    | (with_reducible exact meter_Cut.mono _ _ _ _ _ _ _ _)
    | (with_reducible exact meter_Length.mono _ _ _ _)
    | (with_reducible exact partitalaw05_Meter.mono _ _ _ _ _)
    | (with_reducible exact partitalaw05_awake.mono _)
    | (with_reducible exact partitalaw05_place.mono _ _ _ _ _ _)
    | (with_reducible exact LeO.refl _)
    | (with_reducible exact LeO.none _)
    | (with_reducible refine LeO.ite ?_ ?_)
    | (with_reducible refine LeO.bind ?_ (fun _ => ?_))
    | exact ih0 _ _ _ _ _ _ _ _ _
    | exact ih1 _ _ _ _ _ _ _ _ _ _
    | exact ih2 _ _ _ _ _ _ _ _ _ _
    | exact ih3 _ _ _ _ _ _ _ _ _ _ _
    | exact meter_Beats.mono _ _ _ _
    | exact meter_Cut.mono _ _ _ _ _ _ _ _
    | exact meter_Length.mono _ _ _ _
    | exact partitalaw05_Meter.mono _ _ _ _ _
    | exact partitalaw05_awake.mono _
    | exact partitalaw05_place.mono _ _ _ _ _ _
    | exact LeO.none _
    | refine LeO.ite ?_ ?_
    | refine LeO.bind ?_ (fun _ => ?_)
  · intro y0 y1 y2 y3 y4 y5 y6 y7 y8 y9
    unfold partitalaw05_MeterAgain.l0
    repeat' first
    | (with_reducible exact ih0 _ _ _ _ _ _ _ _ _)
    | (with_reducible exact ih1 _ _ _ _ _ _ _ _ _ _)
    | (with_reducible exact ih2 _ _ _ _ _ _ _ _ _ _)
    | (with_reducible exact ih3 _ _ _ _ _ _ _ _ _ _ _)
    | (with_reducible exact meter_Beats.mono _ _ _ _)
    | (with_reducible exact meter_Cut.mono _ _ _ _ _ _ _ _)
    | (with_reducible exact meter_Length.mono _ _ _ _)
    | (with_reducible exact partitalaw05_Meter.mono _ _ _ _ _)
    | (with_reducible exact partitalaw05_awake.mono _)
    | (with_reducible exact partitalaw05_place.mono _ _ _ _ _ _)
    | (with_reducible exact LeO.refl _)
    | (with_reducible exact LeO.none _)
    | (with_reducible refine LeO.ite ?_ ?_)
    | (with_reducible refine LeO.bind ?_ (fun _ => ?_))
    | exact ih0 _ _ _ _ _ _ _ _ _
    | exact ih1 _ _ _ _ _ _ _ _ _ _
    | exact ih2 _ _ _ _ _ _ _ _ _ _
    | exact ih3 _ _ _ _ _ _ _ _ _ _ _
    | exact meter_Beats.mono _ _ _ _
    | exact meter_Cut.mono _ _ _ _ _ _ _ _
    | exact meter_Length.mono _ _ _ _
    | exact partitalaw05_Meter.mono _ _ _ _ _
    | exact partitalaw05_awake.mono _
    | exact partitalaw05_place.mono _ _ _ _ _ _
    | exact LeO.none _
    | refine LeO.ite ?_ ?_
    | refine LeO.bind ?_ (fun _ => ?_)
  · intro y0 y1 y2 y3 y4 y5 y6 y7 y8 y9 y10
    unfold partitalaw05_MeterAgain.j3
    repeat' first
    | (with_reducible exact ih0 _ _ _ _ _ _ _ _ _)
    | (with_reducible exact ih1 _ _ _ _ _ _ _ _ _ _)
    | (with_reducible exact ih2 _ _ _ _ _ _ _ _ _ _)
    | (with_reducible exact ih3 _ _ _ _ _ _ _ _ _ _ _)
    | (with_reducible exact meter_Beats.mono _ _ _ _)
    | (with_reducible exact meter_Cut.mono _ _ _ _ _ _ _ _)
    | (with_reducible exact meter_Length.mono _ _ _ _)
    | (with_reducible exact partitalaw05_Meter.mono _ _ _ _ _)
    | (with_reducible exact partitalaw05_awake.mono _)
    | (with_reducible exact partitalaw05_place.mono _ _ _ _ _ _)
    | (with_reducible exact LeO.refl _)
    | (with_reducible exact LeO.none _)
    | (with_reducible refine LeO.ite ?_ ?_)
    | (with_reducible refine LeO.bind ?_ (fun _ => ?_))
    | exact ih0 _ _ _ _ _ _ _ _ _
    | exact ih1 _ _ _ _ _ _ _ _ _ _
    | exact ih2 _ _ _ _ _ _ _ _ _ _
    | exact ih3 _ _ _ _ _ _ _ _ _ _ _
    | exact meter_Beats.mono _ _ _ _
    | exact meter_Cut.mono _ _ _ _ _ _ _ _
    | exact meter_Length.mono _ _ _ _
    | exact partitalaw05_Meter.mono _ _ _ _ _
    | exact partitalaw05_awake.mono _
    | exact partitalaw05_place.mono _ _ _ _ _ _
    | exact LeO.none _
    | refine LeO.ite ?_ ?_
    | refine LeO.bind ?_ (fun _ => ?_)
theorem partitalaw05_MeterAgain.mono : ∀ a0 a1 a2 a3 a4 a5 k, LeO (partitalaw05_MeterAgain.f k a0 a1 a2 a3 a4 a5) (partitalaw05_MeterAgain.f (k + 1) a0 a1 a2 a3 a4 a5) := by
 intro a0 a1 a2 a3 a4 a5 k
 obtain ⟨ih0, ih1, ih2, ih3⟩ := partitalaw05_MeterAgain.mono_l k
 unfold partitalaw05_MeterAgain.f
 repeat' first
  | (with_reducible exact ih0 _ _ _ _ _ _ _ _ _)
  | (with_reducible exact ih1 _ _ _ _ _ _ _ _ _ _)
  | (with_reducible exact ih2 _ _ _ _ _ _ _ _ _ _)
  | (with_reducible exact ih3 _ _ _ _ _ _ _ _ _ _ _)
  | (with_reducible exact meter_Beats.mono _ _ _ _)
  | (with_reducible exact meter_Cut.mono _ _ _ _ _ _ _ _)
  | (with_reducible exact meter_Length.mono _ _ _ _)
  | (with_reducible exact partitalaw05_Meter.mono _ _ _ _ _)
  | (with_reducible exact partitalaw05_awake.mono _)
  | (with_reducible exact partitalaw05_place.mono _ _ _ _ _ _)
  | (with_reducible exact LeO.refl _)
  | (with_reducible exact LeO.none _)
  | (with_reducible refine LeO.ite ?_ ?_)
  | (with_reducible refine LeO.bind ?_ (fun _ => ?_))
  | exact ih0 _ _ _ _ _ _ _ _ _
  | exact ih1 _ _ _ _ _ _ _ _ _ _
  | exact ih2 _ _ _ _ _ _ _ _ _ _
  | exact ih3 _ _ _ _ _ _ _ _ _ _ _
  | exact meter_Beats.mono _ _ _ _
  | exact meter_Cut.mono _ _ _ _ _ _ _ _
  | exact meter_Length.mono _ _ _ _
  | exact partitalaw05_Meter.mono _ _ _ _ _
  | exact partitalaw05_awake.mono _
  | exact partitalaw05_place.mono _ _ _ _ _ _
  | exact LeO.none _
  | refine LeO.ite ?_ ?_
  | refine LeO.bind ?_ (fun _ => ?_)
def partitalaw05_MeterAgain.T16 : Bool × List (List Nat × List Nat) := (true, [([], []), ([], []), ([], []), ([], []), ([2, 3], [2, 3]), ([4], [4]), ([0, 1, 5], [0, 1, 5]), ([6], [6]), ([7], [7]), ([7], [7]), ([8, 6, 0, 1, 2, 3, 4, 5, 6, 7, 8], [8]), ([9, 10, 0, 1, 2, 3, 4, 5, 6, 7, 8, 9, 10], [9])])
def partitalaw05_MeterAgain.B16 : List Nat := [0, 0, 0, 0, 12, 28, 63, 127, 255, 255, 511, 2047]
theorem partitalaw05_MeterAgain.tab16 : rtab .any (opsOf Try.f6 16) = partitalaw05_MeterAgain.T16 := by kernel_rfl
theorem partitalaw05_MeterAgain.bits16 : waitsOk partitalaw05_MeterAgain.T16.2 partitalaw05_MeterAgain.B16 = true := by kernel_rfl
def partitalaw05_MeterAgain.T17 : Bool × List (List Nat × List Nat) := (true, [([], []), ([0], [0]), ([1], [1]), ([2], [2]), ([3, 2], [2, 3]), ([4, 2], [2, 4]), ([2, 5], [2, 5]), ([6, 2], [6]), ([7], [7]), ([8, 7], [7, 8]), ([9, 7], [7, 9]), ([7], [7]), ([7], [7]), ([11, 12, 7], [7, 11, 12]), ([13, 7], [7, 13]), ([10, 14, 7], [7, 10, 14]), ([7, 15], [7, 15])])
def partitalaw05_MeterAgain.B17 : List Nat := [0, 1, 3, 7, 15, 31, 63, 127, 255, 511, 1023, 255, 255, 6399, 14591, 32767, 65535]
theorem partitalaw05_MeterAgain.tab17 : rtab .any (opsOf Try.f6 17) = partitalaw05_MeterAgain.T17 := by kernel_rfl
theorem partitalaw05_MeterAgain.bits17 : waitsOk partitalaw05_MeterAgain.T17.2 partitalaw05_MeterAgain.B17 = true := by kernel_rfl
def partitalaw05_MeterAgain.T19 : Bool × List (List Nat × List Nat) := (true, [([], []), ([], []), ([], []), ([1, 2], [1, 2]), ([3], [3]), ([0, 4], [0, 4]), ([5], [5]), ([6], [6]), ([6], [6]), ([], []), ([9, 7, 5, 0, 1, 2, 3, 4, 5, 6, 7, 9], [7, 9]), ([8, 10, 0, 1, 2, 3, 4, 5, 6, 7, 8, 9, 10], [8])])
def partitalaw05_MeterAgain.B19 : List Nat := [0, 0, 0, 6, 14, 31, 63, 127, 127, 0, 767, 2047]
theorem partitalaw05_MeterAgain.tab19 : rtab .any (opsOf Try.f6 19) = partitalaw05_MeterAgain.T19 := by kernel_rfl
theorem partitalaw05_MeterAgain.bits19 : waitsOk partitalaw05_MeterAgain.T19.2 partitalaw05_MeterAgain.B19 = true := by kernel_rfl
set_option maxHeartbeats 8000000 in
set_option maxRecDepth 100000 in
theorem partitalaw05_MeterAgain.calls (k : Nat) (a0_0 : Int) (a0_1 : Int) (A0_2 : Option Addr) (c0_2 : Nat) (l0_2 : List Int) (a1 : Bool) (a2 : Int) (a3 : Int) (r : Bool) (w : World) (hr0_2 : Kd.C (Kd.int .i64) w A0_2 l0_2.length l0_2) (hc0_2 : l0_2.length ≤ c0_2) (h : partitalaw05_MeterAgain.f k a0_0 a0_1 l0_2 a1 a2 a3 = some r) :
 Calls Try.prog 6 #[.agg #[.int .i64 a0_0, .int .i64 a0_1, .slice A0_2 l0_2.length c0_2], .bool a1, .int .i64 a2, .int .i64 a3] w fun e w' => e = .returned (.bool r) ∧ Below w.heap.size w w' := by
 have hu24 := Try.underlying24
 have hu26 := Try.underlying26
 have HR0_2 := Aside0.mk hr0_2
 have HC0_2 := Aside0.mk hc0_2
 clear hr0_2 hc0_2
 have HB := Aside0.mk (Below.refl w.heap.size w)
 have H : ((partitalaw05_awake.f k).bind fun t336 => ((partitalaw05_Meter.f k a0_0 a0_1 l0_2 a1).bind fun bt337 => ((meter_Length.f k bt337.1 bt337.2.1 bt337.2.2).bind fun bt343 => ((meter_Beats.f k bt337.1 bt337.2.1 bt337.2.2).bind fun bt347 => ((meter_Cut.f k bt337.1 bt337.2.1 bt337.2.2 0 1 bt343.1 bt343.2.1).bind fun bt351 => (if bt343.2.2 = 0 then (if bt347.2 = 0 then (if bt351.2 = 0 then (partitalaw05_MeterAgain.j0 k a2 a3 t336 ((bt351.1.length : Int) != (bt347.1.length : Int)) bt337.1 bt337.2.1 bt337.2.2 bt343.1 bt343.2.1) else (partitalaw05_MeterAgain.j0 k a2 a3 t336 true bt337.1 bt337.2.1 bt337.2.2 bt343.1 bt343.2.1)) else (partitalaw05_MeterAgain.j0 k a2 a3 t336 true bt337.1 bt337.2.1 bt337.2.2 bt343.1 bt343.2.1)) else (partitalaw05_MeterAgain.j0 k a2 a3 t336 true bt337.1 bt337.2.1 bt337.2.2 bt343.1 bt343.2.1))))))) = some r := h
 clear h
 replace H := Option.bind_eq_some_iff.mp H
 obtain ⟨t336, A50, H⟩ := H
 replace H : ((partitalaw05_Meter.f k a0_0 a0_1 l0_2 a1).bind fun bt337 => ((meter_Length.f k bt337.1 bt337.2.1 bt337.2.2).bind fun bt343 => ((meter_Beats.f k bt337.1 bt337.2.1 bt337.2.2).bind fun bt347 => ((meter_Cut.f k bt337.1 bt337.2.1 bt337.2.2 0 1 bt343.1 bt343.2.1).bind fun bt351 => (if bt343.2.2 = 0 then (if bt347.2 = 0 then (if bt351.2 = 0 then (partitalaw05_MeterAgain.j0 k a2 a3 t336 ((bt351.1.length : Int) != (bt347.1.length : Int)) bt337.1 bt337.2.1 bt337.2.2 bt343.1 bt343.2.1) else (partitalaw05_MeterAgain.j0 k a2 a3 t336 true bt337.1 bt337.2.1 bt337.2.2 bt343.1 bt343.2.1)) else (partitalaw05_MeterAgain.j0 k a2 a3 t336 true bt337.1 bt337.2.1 bt337.2.2 bt343.1 bt343.2.1)) else (partitalaw05_MeterAgain.j0 k a2 a3 t336 true bt337.1 bt337.2.1 bt337.2.2 bt343.1 bt343.2.1)))))) = some r := H
 have A5 := Aside0.mk A50
 clear A50
 replace H := Option.bind_eq_some_iff.mp H
 obtain ⟨⟨t337, t338, t339⟩, A60, H⟩ := H
 replace H : ((meter_Length.f k t337 t338 t339).bind fun bt343 => ((meter_Beats.f k t337 t338 t339).bind fun bt347 => ((meter_Cut.f k t337 t338 t339 0 1 bt343.1 bt343.2.1).bind fun bt351 => (if bt343.2.2 = 0 then (if bt347.2 = 0 then (if bt351.2 = 0 then (partitalaw05_MeterAgain.j0 k a2 a3 t336 ((bt351.1.length : Int) != (bt347.1.length : Int)) t337 t338 t339 bt343.1 bt343.2.1) else (partitalaw05_MeterAgain.j0 k a2 a3 t336 true t337 t338 t339 bt343.1 bt343.2.1)) else (partitalaw05_MeterAgain.j0 k a2 a3 t336 true t337 t338 t339 bt343.1 bt343.2.1)) else (partitalaw05_MeterAgain.j0 k a2 a3 t336 true t337 t338 t339 bt343.1 bt343.2.1))))) = some r := H
 have A6 := Aside0.mk A60
 clear A60
 replace H := Option.bind_eq_some_iff.mp H
 obtain ⟨⟨t343, t344, t345⟩, A70, H⟩ := H
 replace H : ((meter_Beats.f k t337 t338 t339).bind fun bt347 => ((meter_Cut.f k t337 t338 t339 0 1 t343 t344).bind fun bt351 => (if t345 = 0 then (if bt347.2 = 0 then (if bt351.2 = 0 then (partitalaw05_MeterAgain.j0 k a2 a3 t336 ((bt351.1.length : Int) != (bt347.1.length : Int)) t337 t338 t339 t343 t344) else (partitalaw05_MeterAgain.j0 k a2 a3 t336 true t337 t338 t339 t343 t344)) else (partitalaw05_MeterAgain.j0 k a2 a3 t336 true t337 t338 t339 t343 t344)) else (partitalaw05_MeterAgain.j0 k a2 a3 t336 true t337 t338 t339 t343 t344)))) = some r := H
 have A7 := Aside0.mk A70
 clear A70
 replace H := Option.bind_eq_some_iff.mp H
 obtain ⟨⟨t347, t350⟩, A80, H⟩ := H
 replace H : ((meter_Cut.f k t337 t338 t339 0 1 t343 t344).bind fun bt351 => (if t345 = 0 then (if t350 = 0 then (if bt351.2 = 0 then (partitalaw05_MeterAgain.j0 k a2 a3 t336 ((bt351.1.length : Int) != (t347.length : Int)) t337 t338 t339 t343 t344) else (partitalaw05_MeterAgain.j0 k a2 a3 t336 true t337 t338 t339 t343 t344)) else (partitalaw05_MeterAgain.j0 k a2 a3 t336 true t337 t338 t339 t343 t344)) else (partitalaw05_MeterAgain.j0 k a2 a3 t336 true t337 t338 t339 t343 t344))) = some r := H
 have A8 := Aside0.mk A80
 clear A80
 replace H := Option.bind_eq_some_iff.mp H
 obtain ⟨⟨t351, t354⟩, A90, H⟩ := H
 replace H : (if t345 = 0 then (if t350 = 0 then (if t354 = 0 then (partitalaw05_MeterAgain.j0 k a2 a3 t336 ((t351.length : Int) != (t347.length : Int)) t337 t338 t339 t343 t344) else (partitalaw05_MeterAgain.j0 k a2 a3 t336 true t337 t338 t339 t343 t344)) else (partitalaw05_MeterAgain.j0 k a2 a3 t336 true t337 t338 t339 t343 t344)) else (partitalaw05_MeterAgain.j0 k a2 a3 t336 true t337 t338 t339 t343 t344)) = some r := H
 have A9 := Aside0.mk A90
 clear A90
 have HC10 := Aside0.mk H
 clear H
 go_enter Try.func6, Try.ntmps6
 go_upto_region 6 with (first | ((with_reducible refine gate_dst (N := 4) rfl ?_); (try (refine gate_guard (by rfl) ?_; dsimp only)); refine box_event ?hg (N := 4) ?hd (cs := #[.int .i64 a0_0, .int .i64 a0_1, .slice A0_2 l0_2.length c0_2]) (t := 24) ?hr ?_; (case hd => rfl); (case hg => rfl); (case hr => first | (go_simp; done) | (go_simp; rfl)); intro gb335 hg w11 hbox hb; have n0_ := Aside0.mk (below_step (by repeat (first | (with_reducible first | exact HB.out | apply below_alloc | apply pw_below_drewN | apply below_drew1) | exact HB.out)) hb); have n1_ := Aside0.mk (hbox); have n2_ := Aside0.mk ((by rw [hg]; exact (below_size (by repeat (first | (with_reducible first | exact HB.out | apply below_alloc | apply pw_below_drewN | apply below_drew1) | exact HB.out))) : w.heap.size ≤ gb335)); have n3_ := Aside0.mk ((by rw [hg]; exact (below_size (by repeat (first | (with_reducible first | exact HB.out | apply below_alloc | apply pw_below_drewN | apply below_drew1) | exact HB.out))) : w.heap.size ≤ gb335)); clear HB; have HB := n0_; have BK335 := n1_; have GW335 := n2_; have GE335 := n3_; clear n0_ n1_ n2_ n3_; clear hb hbox hg) | ((with_reducible refine gate_callee (f := 10) rfl ?_); refine goesL_ (some 25) rfl rfl Try.func10 (by kernel_rfl) rfl #[] rfl (by (try simp only [List.map_toArray, List.map_cons, List.map_nil]); first | done | rfl | (simp only [List.length_drop, List.length_take]; rfl)) ?_; (with_reducible refine (partitalaw05_awake.calls k  t336 _ A5.out).mono ?_); rintro e w12 ⟨rfl, hb⟩; refine ⟨_, rfl, ?_⟩; have n0_ := Aside0.mk (blk_below (qB BK335.out) hb); have n1_ := Aside0.mk (below_step (by repeat (first | (with_reducible first | exact HB.out | apply below_alloc | apply pw_below_drewN | apply below_drew1 | refine below_set ?_ GE335.out) | exact HB.out)) hb); clear BK335; clear HB; have BK335 := n0_; have HB := n1_; clear n0_ n1_; (try clear hb); (try clear hb2); (try clear hk); (try clear hi); have hcz13_0 : w12.cell? ⟨gb335, 0, none⟩ = some (.int .i64 a0_0) := (blk_cell BK335.out 0).trans rfl; have hcz13_1 : w12.cell? ⟨gb335, 1, none⟩ = some (.int .i64 a0_1) := (blk_cell BK335.out 1).trans rfl; have hcz13_2 : w12.cell? ⟨gb335, 2, none⟩ = some (.slice A0_2 l0_2.length c0_2) := (blk_cell BK335.out 2).trans rfl; have hfz13_0 := blk_frozen BK335.out 0; have hfz13_1 := blk_frozen BK335.out 1; have hfz13_2 := blk_frozen BK335.out 2) | ((with_reducible refine gate_callee (f := 11) rfl ?_); refine goesL_ (some 28) rfl rfl Try.func11 (by kernel_rfl) rfl #[.agg #[.int .i64 a0_0, .int .i64 a0_1, .slice A0_2 l0_2.length c0_2], .bool a1] rfl (by (try simp only [List.map_toArray, List.map_cons, List.map_nil]); first | done | rfl | (simp only [List.length_drop, List.length_take]; rfl)) ?_; (with_reducible refine (partitalaw05_Meter.calls k a0_0 a0_1 _ _ l0_2 a1 t337 t338 t339 _ ?side1 ?side2 A6.out).mono ?_); (case side1 => repeat (first | exact (Kd.C_below HR0_2.out HB.out) | (with_reducible refine Kd.C_alloc ?_ _) | (with_reducible refine Kd.C_drewN ?_ _) | (with_reducible refine Kd.C_drew ?_))); (case side2 => exact HC0_2.out); rintro e w14 ⟨v340, rfl, ho0, hb⟩; refine ⟨_, rfl, ?_⟩; have n0_ := Aside0.mk (Kd.R_lower ho0 (below_size (by repeat (first | (with_reducible first | exact HB.out | apply below_alloc | apply pw_below_drewN | apply below_drew1 | refine below_set ?_ GE335.out) | exact HB.out)))); have n1_ := Aside0.mk (blk_below (qB BK335.out) hb); have n2_ := Aside0.mk (below_step (by repeat (first | (with_reducible first | exact HB.out | apply below_alloc | apply pw_below_drewN | apply below_drew1 | refine below_set ?_ GE335.out) | exact HB.out)) hb); clear BK335; clear HB; have HO341 := n0_; have BK335 := n1_; have HB := n2_; clear n0_ n1_ n2_; (try clear hb); (try clear hb2); (try clear hk); (try clear hi); (try clear ho0)) | ((with_reducible refine gate_dst (N := 10) rfl ?_); (try (refine gate_guard (by rfl) ?_; dsimp only)); refine box_event ?hg (N := 10) ?hd (cs := #[.int .i64 0, .int .i64 0, .slice none 0 0]) (t := 24) ?hr ?_; (case hd => rfl); (case hg => rfl); (case hr => first | (go_simp; done) | (go_simp; rfl)); intro gb342 hg w15 hbox hb; have n0_ := Aside0.mk (Kd.R_below (qR HO341.out) hb); have n1_ := Aside0.mk (blk_below (qB BK335.out) hb); have n2_ := Aside0.mk (below_step (by repeat (first | (with_reducible first | exact HB.out | apply below_alloc | apply pw_below_drewN | apply below_drew1 | refine below_set ?_ GE335.out) | exact HB.out)) hb); have n3_ := Aside0.mk (hbox); have n4_ := Aside0.mk ((by rw [hg]; exact (below_size (by repeat (first | (with_reducible first | exact HB.out | apply below_alloc | apply pw_below_drewN | apply below_drew1 | refine below_set ?_ GE335.out) | exact HB.out))) : w.heap.size ≤ gb342)); have n5_ := Aside0.mk ((by rw [hg]; exact (below_size (by repeat (first | (with_reducible first | exact HB.out | apply below_alloc | apply pw_below_drewN | apply below_drew1 | refine below_set ?_ GE335.out) | exact HB.out))) : w.heap.size ≤ gb342)); have n6_ := Aside0.mk ((by rw [hg]; exact Nat.ne_of_lt (blk_lt (qB BK335.out)) : gb335 ≠ gb342)); have n7_ := Aside0.mk ((by rw [hg]; exact Nat.ne_of_gt (blk_lt (qB BK335.out)) : gb342 ≠ gb335)); clear HO341; clear BK335; clear HB; have HO341 := n0_; have BK335 := n1_; have HB := n2_; have BK342 := n3_; have GW342 := n4_; have GE342 := n5_; have NB335_342 := n6_; have NB342_335 := n7_; clear n0_ n1_ n2_ n3_ n4_ n5_ n6_ n7_; clear hb hbox hg; have hnb16 := NB342_335.out; have hnc16 := NB335_342.out; have hcz17_0 : w15.cell? ⟨gb342, 0, none⟩ = some (.int .i64 0) := (blk_cell BK342.out 0).trans rfl; have hcz17_1 : w15.cell? ⟨gb342, 1, none⟩ = some (.int .i64 0) := (blk_cell BK342.out 1).trans rfl; have hcz17_2 : w15.cell? ⟨gb342, 2, none⟩ = some (.slice none 0 0) := (blk_cell BK342.out 2).trans rfl; have hfz17_0 := blk_frozen BK342.out 0; have hfz17_1 := blk_frozen BK342.out 1; have hfz17_2 := blk_frozen BK342.out 2; obtain ⟨Ao18, co18, eo18⟩ := Kd.R_slice HO341.out; subst eo18) | ((with_reducible refine gate_callee (f := 12) rfl ?_); refine goesL_ (some 31) rfl rfl Try.func12 (by kernel_rfl) rfl #[.agg #[.int .i64 t337, .int .i64 t338, .slice Ao18 t339.length co18]] rfl (by (try simp only [List.map_toArray, List.map_cons, List.map_nil]); first | done | rfl | (simp only [List.length_drop, List.length_take]; rfl)) ?_; (with_reducible refine (meter_Length.calls k t337 t338 _ _ t339 t343 t344 t345 _ ?side1 ?side2 A7.out).mono ?_); (case side1 => refine (Kd.R_reads' (e := 3) (base := w.heap.size) (ok := fun k_ => True) (n := t339.length) (c := co18) ?_).2.2; exact (qR ((Kd.R_mono (Kd.R_far (p := ⟨gb342, 2, none⟩) (Kd.R_far (p := ⟨gb342, 1, none⟩) (Kd.R_far (p := ⟨gb342, 0, none⟩) (Kd.R_types HO341.out BK342.out (by decide)) (fun _ hk => hk.2) (.int .i64 t337)) (fun _ hk => hk.2) (.int .i64 t338)) (fun _ hk => hk.2) (.slice Ao18 t339.length co18)) (fun _ h_ => h_.1))))); (case side2 => exact (Kd.R_reads' HO341.out).2.1); rintro e w19 ⟨rfl, hb⟩; refine ⟨_, rfl, ?_⟩; have n0_ := Aside0.mk (Kd.R_below (qR ((Kd.R_mono (Kd.R_far (p := ⟨gb342, 2, none⟩) (Kd.R_far (p := ⟨gb342, 1, none⟩) (Kd.R_far (p := ⟨gb342, 0, none⟩) (Kd.R_types HO341.out BK342.out (by decide)) (fun _ hk => hk.2) (.int .i64 t337)) (fun _ hk => hk.2) (.int .i64 t338)) (fun _ hk => hk.2) (.slice Ao18 t339.length co18)) (fun _ h_ => h_.1)))) hb); have n1_ := Aside0.mk (blk_below (g := gb335) (o := .cells #[.int .i64 a0_0, .int .i64 a0_1, .slice A0_2 l0_2.length c0_2] 24 (0, 0)) (by (with_reducible repeat (first | refine blk_drewN ?_ _ | refine blk_drew ?_ | refine blk_alloc ?_ _)); refine blk_far ?_ NB335_342.out _; (with_reducible repeat (first | refine blk_drewN ?_ _ | refine blk_drew ?_ | refine blk_alloc ?_ _)); refine blk_far ?_ NB335_342.out _; (with_reducible repeat (first | refine blk_drewN ?_ _ | refine blk_drew ?_ | refine blk_alloc ?_ _)); refine blk_far ?_ NB335_342.out _; (with_reducible repeat (first | refine blk_drewN ?_ _ | refine blk_drew ?_ | refine blk_alloc ?_ _)); exact BK335.out) hb); have n2_ := Aside0.mk (blk_below (g := gb342) (o := .cells #[.int .i64 t337, .int .i64 t338, .slice Ao18 t339.length co18] 24 (0, 0)) (by (with_reducible repeat (first | refine blk_drewN ?_ _ | refine blk_drew ?_ | refine blk_alloc ?_ _)); refine blk_put (cs := #[.int .i64 t337, .int .i64 t338, .slice none 0 0]) ?_ 2 _ rfl; (with_reducible repeat (first | refine blk_drewN ?_ _ | refine blk_drew ?_ | refine blk_alloc ?_ _)); refine blk_put (cs := #[.int .i64 t337, .int .i64 0, .slice none 0 0]) ?_ 1 _ rfl; (with_reducible repeat (first | refine blk_drewN ?_ _ | refine blk_drew ?_ | refine blk_alloc ?_ _)); refine blk_put (cs := #[.int .i64 0, .int .i64 0, .slice none 0 0]) ?_ 0 _ rfl; (with_reducible repeat (first | refine blk_drewN ?_ _ | refine blk_drew ?_ | refine blk_alloc ?_ _)); exact BK342.out) hb); have n3_ := Aside0.mk (below_step (by repeat (first | (with_reducible first | exact HB.out | apply below_alloc | apply pw_below_drewN | apply below_drew1 | refine below_set ?_ (Aside0.out (by assumption))) | exact HB.out)) hb); clear HO341; clear BK335; clear BK342; clear HB; have HO341 := n0_; have BK335 := n1_; have BK342 := n2_; have HB := n3_; clear n0_ n1_ n2_ n3_; (try clear hb); (try clear hb2); (try clear hk); (try clear hi)) | ((with_reducible refine gate_dst (N := 11) rfl ?_); (try (refine gate_guard (by rfl) ?_; dsimp only)); refine box_event ?hg (N := 11) ?hd (cs := #[.int .i64 0, .int .i64 0]) (t := 26) ?hr ?_; (case hd => rfl); (case hg => rfl); (case hr => first | (go_simp; done) | (go_simp; rfl)); intro gb346 hg w20 hbox hb; have n0_ := Aside0.mk (Kd.R_below (qR HO341.out) hb); have n1_ := Aside0.mk (blk_below (qB BK335.out) hb); have n2_ := Aside0.mk (blk_below (qB BK342.out) hb); have n3_ := Aside0.mk (below_step (by repeat (first | (with_reducible first | exact HB.out | apply below_alloc | apply pw_below_drewN | apply below_drew1 | refine below_set ?_ (Aside0.out (by assumption))) | exact HB.out)) hb); have n4_ := Aside0.mk (hbox); have n5_ := Aside0.mk ((by rw [hg]; exact (below_size (by repeat (first | (with_reducible first | exact HB.out | apply below_alloc | apply pw_below_drewN | apply below_drew1 | refine below_set ?_ (Aside0.out (by assumption))) | exact HB.out))) : w.heap.size ≤ gb346)); have n6_ := Aside0.mk ((by rw [hg]; exact (below_size (by repeat (first | (with_reducible first | exact HB.out | apply below_alloc | apply pw_below_drewN | apply below_drew1 | refine below_set ?_ (Aside0.out (by assumption))) | exact HB.out))) : w.heap.size ≤ gb346)); have n7_ := Aside0.mk ((by rw [hg]; exact Nat.ne_of_lt (blk_lt (qB BK335.out)) : gb335 ≠ gb346)); have n8_ := Aside0.mk ((by rw [hg]; exact Nat.ne_of_gt (blk_lt (qB BK335.out)) : gb346 ≠ gb335)); have n9_ := Aside0.mk ((by rw [hg]; exact Nat.ne_of_lt (blk_lt (qB BK342.out)) : gb342 ≠ gb346)); have n10_ := Aside0.mk ((by rw [hg]; exact Nat.ne_of_gt (blk_lt (qB BK342.out)) : gb346 ≠ gb342)); clear HO341; clear BK335; clear BK342; clear HB; have HO341 := n0_; have BK335 := n1_; have BK342 := n2_; have HB := n3_; have BK346 := n4_; have GW346 := n5_; have GE346 := n6_; have NB335_346 := n7_; have NB346_335 := n8_; have NB342_346 := n9_; have NB346_342 := n10_; clear n0_ n1_ n2_ n3_ n4_ n5_ n6_ n7_ n8_ n9_ n10_; clear hb hbox hg; have hnb21 := NB346_335.out; have hnc21 := NB335_346.out; have hnb22 := NB346_342.out; have hnc22 := NB342_346.out; have hcz23_0 : w20.cell? ⟨gb346, 0, none⟩ = some (.int .i64 0) := (blk_cell BK346.out 0).trans rfl; have hcz23_1 : w20.cell? ⟨gb346, 1, none⟩ = some (.int .i64 0) := (blk_cell BK346.out 1).trans rfl; have hfz23_0 := blk_frozen BK346.out 0; have hfz23_1 := blk_frozen BK346.out 1; have hcz24_0 : w20.cell? ⟨gb342, 0, none⟩ = some (.int .i64 t337) := (blk_cell BK342.out 0).trans rfl; have hcz24_1 : w20.cell? ⟨gb342, 1, none⟩ = some (.int .i64 t338) := (blk_cell BK342.out 1).trans rfl; have hcz24_2 : w20.cell? ⟨gb342, 2, none⟩ = some (.slice Ao18 t339.length co18) := (blk_cell BK342.out 2).trans rfl; have hfz24_0 := blk_frozen BK342.out 0; have hfz24_1 := blk_frozen BK342.out 1; have hfz24_2 := blk_frozen BK342.out 2) | ((with_reducible refine gate_callee (f := 14) rfl ?_); refine goesL_ (some 36) rfl rfl Try.func14 (by kernel_rfl) rfl #[.agg #[.int .i64 t337, .int .i64 t338, .slice Ao18 t339.length co18]] rfl (by (try simp only [List.map_toArray, List.map_cons, List.map_nil]); first | done | rfl | (simp only [List.length_drop, List.length_take]; rfl)) ?_; (with_reducible refine (meter_Beats.calls k t337 t338 _ _ t339 t347 t350 _ ?side1 ?side2 A8.out).mono ?_); (case side1 => refine (Kd.R_reads' (e := 3) (base := w.heap.size) (ok := fun k_ => True) (n := t339.length) (c := co18) ?_).2.2; exact (qR ((Kd.R_mono (Kd.R_far (p := ⟨gb346, 1, none⟩) (Kd.R_far (p := ⟨gb346, 0, none⟩) (Kd.R_types HO341.out BK346.out (by decide)) (fun _ hk => hk.2) (.int .i64 t343)) (fun _ hk => hk.2) (.int .i64 t344)) (fun _ h_ => h_.1))))); (case side2 => exact (Kd.R_reads' HO341.out).2.1); rintro e w25 ⟨v348, rfl, ho0, hb⟩; refine ⟨_, rfl, ?_⟩; have n0_ := Aside0.mk (Kd.R_below (qR ((Kd.R_mono (Kd.R_far (p := ⟨gb346, 1, none⟩) (Kd.R_far (p := ⟨gb346, 0, none⟩) (Kd.R_types HO341.out BK346.out (by decide)) (fun _ hk => hk.2) (.int .i64 t343)) (fun _ hk => hk.2) (.int .i64 t344)) (fun _ h_ => h_.1)))) hb); have n1_ := Aside0.mk (Kd.R_lower (Kd.R_newB ho0 (g := gb346) (o := .cells #[.int .i64 t343, .int .i64 t344] 26 (0, 0)) (by (with_reducible repeat (first | refine blk_drewN ?_ _ | refine blk_drew ?_ | refine blk_alloc ?_ _)); refine blk_put (cs := #[.int .i64 t343, .int .i64 0]) ?_ 1 _ rfl; (with_reducible repeat (first | refine blk_drewN ?_ _ | refine blk_drew ?_ | refine blk_alloc ?_ _)); refine blk_put (cs := #[.int .i64 0, .int .i64 0]) ?_ 0 _ rfl; (with_reducible repeat (first | refine blk_drewN ?_ _ | refine blk_drew ?_ | refine blk_alloc ?_ _)); exact BK346.out)) (below_size (by repeat (first | (with_reducible first | exact HB.out | apply below_alloc | apply pw_below_drewN | apply below_drew1 | refine below_set ?_ (Aside0.out (by assumption))) | exact HB.out)))); have n2_ := Aside0.mk (blk_below (g := gb335) (o := .cells #[.int .i64 a0_0, .int .i64 a0_1, .slice A0_2 l0_2.length c0_2] 24 (0, 0)) (by (with_reducible repeat (first | refine blk_drewN ?_ _ | refine blk_drew ?_ | refine blk_alloc ?_ _)); refine blk_far ?_ NB335_346.out _; (with_reducible repeat (first | refine blk_drewN ?_ _ | refine blk_drew ?_ | refine blk_alloc ?_ _)); refine blk_far ?_ NB335_346.out _; (with_reducible repeat (first | refine blk_drewN ?_ _ | refine blk_drew ?_ | refine blk_alloc ?_ _)); exact BK335.out) hb); have n3_ := Aside0.mk (blk_below (g := gb342) (o := .cells #[.int .i64 t337, .int .i64 t338, .slice Ao18 t339.length co18] 24 (0, 0)) (by (with_reducible repeat (first | refine blk_drewN ?_ _ | refine blk_drew ?_ | refine blk_alloc ?_ _)); refine blk_far ?_ NB342_346.out _; (with_reducible repeat (first | refine blk_drewN ?_ _ | refine blk_drew ?_ | refine blk_alloc ?_ _)); refine blk_far ?_ NB342_346.out _; (with_reducible repeat (first | refine blk_drewN ?_ _ | refine blk_drew ?_ | refine blk_alloc ?_ _)); exact BK342.out) hb); have n4_ := Aside0.mk (blk_below (g := gb346) (o := .cells #[.int .i64 t343, .int .i64 t344] 26 (0, 0)) (by (with_reducible repeat (first | refine blk_drewN ?_ _ | refine blk_drew ?_ | refine blk_alloc ?_ _)); refine blk_put (cs := #[.int .i64 t343, .int .i64 0]) ?_ 1 _ rfl; (with_reducible repeat (first | refine blk_drewN ?_ _ | refine blk_drew ?_ | refine blk_alloc ?_ _)); refine blk_put (cs := #[.int .i64 0, .int .i64 0]) ?_ 0 _ rfl; (with_reducible repeat (first | refine blk_drewN ?_ _ | refine blk_drew ?_ | refine blk_alloc ?_ _)); exact BK346.out) hb); have n5_ := Aside0.mk (below_step (by repeat (first | (with_reducible first | exact HB.out | apply below_alloc | apply pw_below_drewN | apply below_drew1 | refine below_set ?_ (Aside0.out (by assumption))) | exact HB.out)) hb); clear HO341; clear BK335; clear BK342; clear BK346; clear HB; have HO341 := n0_; have HO349 := n1_; have BK335 := n2_; have BK342 := n3_; have BK346 := n4_; have HB := n5_; clear n0_ n1_ n2_ n3_ n4_ n5_; (try clear hb); (try clear hb2); (try clear hk); (try clear hi); (try clear ho0); have hcz26_0 : w25.cell? ⟨gb342, 0, none⟩ = some (.int .i64 t337) := (blk_cell BK342.out 0).trans rfl; have hcz26_1 : w25.cell? ⟨gb342, 1, none⟩ = some (.int .i64 t338) := (blk_cell BK342.out 1).trans rfl; have hcz26_2 : w25.cell? ⟨gb342, 2, none⟩ = some (.slice Ao18 t339.length co18) := (blk_cell BK342.out 2).trans rfl; have hfz26_0 := blk_frozen BK342.out 0; have hfz26_1 := blk_frozen BK342.out 1; have hfz26_2 := blk_frozen BK342.out 2; have hcz27_0 : w25.cell? ⟨gb346, 0, none⟩ = some (.int .i64 t343) := (blk_cell BK346.out 0).trans rfl; have hcz27_1 : w25.cell? ⟨gb346, 1, none⟩ = some (.int .i64 t344) := (blk_cell BK346.out 1).trans rfl; have hfz27_0 := blk_frozen BK346.out 0; have hfz27_1 := blk_frozen BK346.out 1) | ((with_reducible refine gate_callee (f := 24) rfl ?_); refine goesL_ (some 43) rfl rfl Try.func24 (by kernel_rfl) rfl #[.agg #[.int .i64 t337, .int .i64 t338, .slice Ao18 t339.length co18], .agg #[.int .i64 0, .int .i64 1], .agg #[.int .i64 t343, .int .i64 t344]] rfl (by (try simp only [List.map_toArray, List.map_cons, List.map_nil]); first | done | rfl | (simp only [List.length_drop, List.length_take]; rfl)) ?_; (with_reducible refine (meter_Cut.calls k t337 t338 _ _ t339 0 1 t343 t344 t351 t354 _ ?side1 ?side2 A9.out).mono ?_); (case side1 => repeat (first | exact (Kd.R_reads' HO341.out).2.2 | (with_reducible refine Kd.C_alloc ?_ _) | (with_reducible refine Kd.C_drewN ?_ _) | (with_reducible refine Kd.C_drew ?_))); (case side2 => exact (Kd.R_reads' HO341.out).2.1); rintro e w28 ⟨v352, rfl, ho0, hb⟩; refine ⟨_, rfl, ?_⟩; have n0_ := Aside0.mk (Kd.R_below (qR HO341.out) hb); have n1_ := Aside0.mk (Kd.R_elder' (qR HO349.out) (Kd.R_base ho0) hb); have n2_ := Aside0.mk (Kd.R_lower (Kd.R_newB (Kd.R_new' ho0 (Kd.R_lt (qR HO349.out))) (qB BK346.out)) (below_size (by repeat (first | (with_reducible first | exact HB.out | apply below_alloc | apply pw_below_drewN | apply below_drew1 | refine below_set ?_ (Aside0.out (by assumption))) | exact HB.out)))); have n3_ := Aside0.mk (blk_below (qB BK335.out) hb); have n4_ := Aside0.mk (blk_below (qB BK342.out) hb); have n5_ := Aside0.mk (blk_below (qB BK346.out) hb); have n6_ := Aside0.mk (below_step (by repeat (first | (with_reducible first | exact HB.out | apply below_alloc | apply pw_below_drewN | apply below_drew1 | refine below_set ?_ (Aside0.out (by assumption))) | exact HB.out)) hb); clear HO341; clear HO349; clear BK335; clear BK342; clear BK346; clear HB; have HO341 := n0_; have HO349 := n1_; have HO353 := n2_; have BK335 := n3_; have BK342 := n4_; have BK346 := n5_; have HB := n6_; clear n0_ n1_ n2_ n3_ n4_ n5_ n6_; (try clear hb); (try clear hb2); (try clear hk); (try clear hi); (try clear ho0)))
 (try simp only [Act.put, qa_, qz_, qs_])
 go_cut [62] (fun v62 wc => ∃ (kq : Nat) (x62_9 : Bool), v62 = .bool x62_9 ∧ Aside0 (partitalaw05_MeterAgain.j0 kq a2 a3 t336 x62_9 t337 t338 t339 t343 t344 = some r) ∧ Aside0 (kq ≤ k) ∧ Aside0 (Kd.R (Kd.int .i64) 3 wc w.heap.size (fun _ => True) (.slice Ao18 t339.length co18) t339) ∧ Aside0 (wc.heap[gb335]? = some (.cells #[.int .i64 a0_0, .int .i64 a0_1, (.slice A0_2 l0_2.length c0_2)] 24 (0, 0))) ∧ Aside0 (wc.heap[gb342]? = some (.cells #[.int .i64 t337, .int .i64 t338, (.slice Ao18 t339.length co18)] 24 (0, 0))) ∧ Aside0 (wc.heap[gb346]? = some (.cells #[.int .i64 t343, .int .i64 t344] 26 (0, 0))) ∧ Aside0 (Below w.heap.size w wc))
 case first =>
  have H := HC10.out
  clear HC10
  by_cases c29 : t345 = 0
  · rw [if_pos c29] at H
    have c29b0 : (t345 == 0) = true := beq_iff_eq.mpr c29
    have c29b1 : (t345 != 0) = false := bne_eq_false_iff_eq.mpr c29
    clear c29
    (first | rw [c29b0] | (simp only [i64_w, i32_w]; rw [c29b0]) | skip)
    by_cases c30 : t350 = 0
    · rw [if_pos c30] at H
      have c30b0 : (t350 == 0) = true := beq_iff_eq.mpr c30
      have c30b1 : (t350 != 0) = false := bne_eq_false_iff_eq.mpr c30
      clear c30
      by_cases c31 : t354 = 0
      · rw [if_pos c31] at H
        have c31b0 : (t354 == 0) = true := beq_iff_eq.mpr c31
        have c31b1 : (t354 != 0) = false := bne_eq_false_iff_eq.mpr c31
        clear c31
        have H' := Aside0.mk H
        clear H
        obtain ⟨Ao32, co32, eo32⟩ := Kd.R_slice HO353.out
        subst eo32
        obtain ⟨Ao33, co33, eo33⟩ := Kd.R_slice HO349.out
        subst eo33
        go_wp2
        go_meet
        case rel => exact ⟨_, (((t351.length : Int) != (t347.length : Int))), (by first | rfl | (simp; done) | (simp [*]; done)), H', ⟨by first | omega | exact Nat.le_refl _⟩, ⟨by (with_reducible repeat (first | apply Kd.R_alloc | apply Kd.R_drewN | apply Kd.R_drew)); exact HO341.out⟩, ⟨by (with_reducible repeat (first | refine blk_drewN ?_ _ | refine blk_drew ?_ | refine blk_alloc ?_ _)); exact BK335.out⟩, ⟨by (with_reducible repeat (first | refine blk_drewN ?_ _ | refine blk_drew ?_ | refine blk_alloc ?_ _)); exact BK342.out⟩, ⟨by (with_reducible repeat (first | refine blk_drewN ?_ _ | refine blk_drew ?_ | refine blk_alloc ?_ _)); exact BK346.out⟩, ⟨by repeat (first | (with_reducible first | exact HB.out | apply below_alloc | apply pw_below_drewN | apply below_drew1 | refine below_set ?_ (Aside0.out (by assumption))) | exact HB.out)⟩⟩
      · rw [if_neg c31] at H
        have c31b0 : (t354 == 0) = false := beq_eq_false_iff_ne.mpr c31
        have c31b1 : (t354 != 0) = true := bne_iff_ne.mpr c31
        have H' := Aside0.mk H
        clear H
        go_wp2
        go_meet
        case rel => exact ⟨_, (true), (by first | rfl | (simp; done) | (simp [*]; done)), H', ⟨by first | omega | exact Nat.le_refl _⟩, ⟨by (with_reducible repeat (first | apply Kd.R_alloc | apply Kd.R_drewN | apply Kd.R_drew)); exact HO341.out⟩, ⟨by (with_reducible repeat (first | refine blk_drewN ?_ _ | refine blk_drew ?_ | refine blk_alloc ?_ _)); exact BK335.out⟩, ⟨by (with_reducible repeat (first | refine blk_drewN ?_ _ | refine blk_drew ?_ | refine blk_alloc ?_ _)); exact BK342.out⟩, ⟨by (with_reducible repeat (first | refine blk_drewN ?_ _ | refine blk_drew ?_ | refine blk_alloc ?_ _)); exact BK346.out⟩, ⟨by repeat (first | (with_reducible first | exact HB.out | apply below_alloc | apply pw_below_drewN | apply below_drew1 | refine below_set ?_ (Aside0.out (by assumption))) | exact HB.out)⟩⟩
    · rw [if_neg c30] at H
      have c30b0 : (t350 == 0) = false := beq_eq_false_iff_ne.mpr c30
      have c30b1 : (t350 != 0) = true := bne_iff_ne.mpr c30
      have H' := Aside0.mk H
      clear H
      go_wp2
      go_meet
      case rel => exact ⟨_, (true), (by first | rfl | (simp; done) | (simp [*]; done)), H', ⟨by first | omega | exact Nat.le_refl _⟩, ⟨by (with_reducible repeat (first | apply Kd.R_alloc | apply Kd.R_drewN | apply Kd.R_drew)); exact HO341.out⟩, ⟨by (with_reducible repeat (first | refine blk_drewN ?_ _ | refine blk_drew ?_ | refine blk_alloc ?_ _)); exact BK335.out⟩, ⟨by (with_reducible repeat (first | refine blk_drewN ?_ _ | refine blk_drew ?_ | refine blk_alloc ?_ _)); exact BK342.out⟩, ⟨by (with_reducible repeat (first | refine blk_drewN ?_ _ | refine blk_drew ?_ | refine blk_alloc ?_ _)); exact BK346.out⟩, ⟨by repeat (first | (with_reducible first | exact HB.out | apply below_alloc | apply pw_below_drewN | apply below_drew1 | refine below_set ?_ (Aside0.out (by assumption))) | exact HB.out)⟩⟩
  · rw [if_neg c29] at H
    have c29b0 : (t345 == 0) = false := beq_eq_false_iff_ne.mpr c29
    have c29b1 : (t345 != 0) = true := bne_iff_ne.mpr c29
    (first | rw [c29b0] | (simp only [i64_w, i32_w]; rw [c29b0]) | skip)
    have H' := Aside0.mk H
    clear H
    go_wp2
    go_meet
    case rel => exact ⟨_, (true), (by first | rfl | (simp; done) | (simp [*]; done)), H', ⟨by first | omega | exact Nat.le_refl _⟩, ⟨by (with_reducible repeat (first | apply Kd.R_alloc | apply Kd.R_drewN | apply Kd.R_drew)); exact HO341.out⟩, ⟨by (with_reducible repeat (first | refine blk_drewN ?_ _ | refine blk_drew ?_ | refine blk_alloc ?_ _)); exact BK335.out⟩, ⟨by (with_reducible repeat (first | refine blk_drewN ?_ _ | refine blk_drew ?_ | refine blk_alloc ?_ _)); exact BK342.out⟩, ⟨by (with_reducible repeat (first | refine blk_drewN ?_ _ | refine blk_drew ?_ | refine blk_alloc ?_ _)); exact BK346.out⟩, ⟨by repeat (first | (with_reducible first | exact HB.out | apply below_alloc | apply pw_below_drewN | apply below_drew1 | refine below_set ?_ (Aside0.out (by assumption))) | exact HB.out)⟩⟩
 case rest =>
  clear HC10
  try clear c1
  try clear c2
  try clear p2
  try clear c3
  try clear c6
  try clear c10
  try clear c11
  try clear c12
  try clear c14
  try clear c16
  try clear c21
  try clear c22
  try clear c24
  try clear c29
  try clear c29b0
  try clear c29b1
  try clear c30
  try clear c30b0
  try clear c30b1
  try clear c31
  try clear c31b0
  try clear c31b1
  try clear hcz13_0
  try clear hcz13_1
  try clear hcz13_2
  try clear hcz17_0
  try clear hcz17_1
  try clear hcz17_2
  try clear hcz23_0
  try clear hcz23_1
  try clear hcz24_0
  try clear hcz24_1
  try clear hcz24_2
  try clear hcz26_0
  try clear hcz26_1
  try clear hcz26_2
  try clear hcz27_0
  try clear hcz27_1
  try clear hfz13_0
  try clear hfz13_1
  try clear hfz13_2
  try clear hfz17_0
  try clear hfz17_1
  try clear hfz17_2
  try clear hfz23_0
  try clear hfz23_1
  try clear hfz24_0
  try clear hfz24_1
  try clear hfz24_2
  try clear hfz26_0
  try clear hfz26_1
  try clear hfz26_2
  try clear hfz27_0
  try clear hfz27_1
  obtain ⟨kq, x62_9, rfl, HA, HJ9, HO_343002, BK335, BK342, BK346, HB⟩ := hcut
  cases kq with
  | zero => exact absurd HA.out (by simp [partitalaw05_MeterAgain.j0])
  | succ kj9 =>
   have H := HA.out
   clear HA
   simp only [partitalaw05_MeterAgain.j0] at H
   by_cases c34 : x62_9 = true
   · subst c34
     have H1 : none = some r := by rw [if_pos rfl] at H; exact H
     cases H1
   · replace c34 := Bool.eq_false_iff.mpr c34
     subst c34
     have H1 : ((partitalaw05_place.f kj9 t337 t338 t339 a2 a3).bind fun bt355 => ((ratio_Sub.f t343 t344 bt355.1 bt355.2).bind fun bt358 => ((meter_Cut.f kj9 t337 t338 t339 bt355.1 bt355.2 bt358.1 bt358.2.1).bind fun bt362 => (if bt358.2.2 = 0 then (partitalaw05_MeterAgain.j1 kj9 t336 bt362.1 (bt362.2 != 0) t337 t338 t339 t343 t344 bt355.1 bt355.2) else (partitalaw05_MeterAgain.j1 kj9 t336 bt362.1 true t337 t338 t339 t343 t344 bt355.1 bt355.2))))) = some r := by rw [if_neg (show ¬ (false = true) by decide)] at H; exact H
     clear H
     have H := H1
     clear H1
     replace H := Option.bind_eq_some_iff.mp H
     obtain ⟨⟨t355, t356⟩, A350, H⟩ := H
     replace H : ((ratio_Sub.f t343 t344 t355 t356).bind fun bt358 => ((meter_Cut.f kj9 t337 t338 t339 t355 t356 bt358.1 bt358.2.1).bind fun bt362 => (if bt358.2.2 = 0 then (partitalaw05_MeterAgain.j1 kj9 t336 bt362.1 (bt362.2 != 0) t337 t338 t339 t343 t344 t355 t356) else (partitalaw05_MeterAgain.j1 kj9 t336 bt362.1 true t337 t338 t339 t343 t344 t355 t356)))) = some r := H
     have A35 := Aside0.mk A350
     clear A350
     replace H := Option.bind_eq_some_iff.mp H
     obtain ⟨⟨t358, t359, t360⟩, A360, H⟩ := H
     replace H : ((meter_Cut.f kj9 t337 t338 t339 t355 t356 t358 t359).bind fun bt362 => (if t360 = 0 then (partitalaw05_MeterAgain.j1 kj9 t336 bt362.1 (bt362.2 != 0) t337 t338 t339 t343 t344 t355 t356) else (partitalaw05_MeterAgain.j1 kj9 t336 bt362.1 true t337 t338 t339 t343 t344 t355 t356))) = some r := H
     have A36 := Aside0.mk A360
     clear A360
     replace H := Option.bind_eq_some_iff.mp H
     obtain ⟨⟨t362, t365⟩, A370, H⟩ := H
     replace H : (if t360 = 0 then (partitalaw05_MeterAgain.j1 kj9 t336 t362 (t365 != 0) t337 t338 t339 t343 t344 t355 t356) else (partitalaw05_MeterAgain.j1 kj9 t336 t362 true t337 t338 t339 t343 t344 t355 t356)) = some r := H
     have A37 := Aside0.mk A370
     clear A370
     have HC38 := Aside0.mk H
     clear H
     have hnb39 := NB342_335.out
     have hnc39 := NB335_342.out
     have hnb40 := NB342_346.out
     have hnc40 := NB346_342.out
     have hcz41_0 : wc.cell? ⟨gb342, 0, none⟩ = some (.int .i64 t337) := (blk_cell BK342.out 0).trans rfl
     have hcz41_1 : wc.cell? ⟨gb342, 1, none⟩ = some (.int .i64 t338) := (blk_cell BK342.out 1).trans rfl
     have hcz41_2 : wc.cell? ⟨gb342, 2, none⟩ = some (.slice Ao18 t339.length co18) := (blk_cell BK342.out 2).trans rfl
     have hfz41_0 := blk_frozen BK342.out 0
     have hfz41_1 := blk_frozen BK342.out 1
     have hfz41_2 := blk_frozen BK342.out 2
     go_upto_region 11 with (first | ((with_reducible refine gate_callee (f := 21) rfl ?_); refine goesL_ (some 66) rfl rfl Try.func21 (by kernel_rfl) rfl #[.agg #[.int .i64 t337, .int .i64 t338, .slice Ao18 t339.length co18], .int .i64 a2, .int .i64 a3] rfl (by (try simp only [List.map_toArray, List.map_cons, List.map_nil]); first | done | rfl | (simp only [List.length_drop, List.length_take]; rfl)) ?_; (with_reducible refine (partitalaw05_place.calls kj9 t337 t338 _ _ t339 a2 a3 t355 t356 _ ?side1 ?side2 A35.out).mono ?_); (case side1 => repeat (first | exact (Kd.R_reads' HO_343002.out).2.2 | (with_reducible refine Kd.C_alloc ?_ _) | (with_reducible refine Kd.C_drewN ?_ _) | (with_reducible refine Kd.C_drew ?_))); (case side2 => exact (Kd.R_reads' HO_343002.out).2.1); rintro e w42 ⟨rfl, hb⟩; refine ⟨_, rfl, ?_⟩; have n0_ := Aside0.mk (Kd.R_below (qR HO_343002.out) hb); have n1_ := Aside0.mk (blk_below (qB BK335.out) hb); have n2_ := Aside0.mk (blk_below (qB BK342.out) hb); have n3_ := Aside0.mk (blk_below (qB BK346.out) hb); have n4_ := Aside0.mk (below_step (by repeat (first | (with_reducible first | exact HB.out | apply below_alloc | apply pw_below_drewN | apply below_drew1 | refine below_set ?_ (Aside0.out (by assumption))) | exact HB.out)) hb); clear HO_343002; clear BK335; clear BK342; clear BK346; clear HB; have HO_343002 := n0_; have BK335 := n1_; have BK342 := n2_; have BK346 := n3_; have HB := n4_; clear n0_ n1_ n2_ n3_ n4_; (try clear hb); (try clear hb2); (try clear hk); (try clear hi)) | ((with_reducible refine gate_dst (N := 17) rfl ?_); (try (refine gate_guard (by rfl) ?_; dsimp only)); refine box_event ?hg (N := 17) ?hd (cs := #[.int .i64 0, .int .i64 0]) (t := 26) ?hr ?_; (case hd => rfl); (case hg => rfl); (case hr => first | (go_simp; done) | (go_simp; rfl)); intro gb357 hg w43 hbox hb; have n0_ := Aside0.mk (Kd.R_below (qR HO_343002.out) hb); have n1_ := Aside0.mk (blk_below (qB BK335.out) hb); have n2_ := Aside0.mk (blk_below (qB BK342.out) hb); have n3_ := Aside0.mk (blk_below (qB BK346.out) hb); have n4_ := Aside0.mk (below_step (by repeat (first | (with_reducible first | exact HB.out | apply below_alloc | apply pw_below_drewN | apply below_drew1 | refine below_set ?_ (Aside0.out (by assumption))) | exact HB.out)) hb); have n5_ := Aside0.mk (hbox); have n6_ := Aside0.mk ((by rw [hg]; exact (below_size (by repeat (first | (with_reducible first | exact HB.out | apply below_alloc | apply pw_below_drewN | apply below_drew1 | refine below_set ?_ (Aside0.out (by assumption))) | exact HB.out))) : w.heap.size ≤ gb357)); have n7_ := Aside0.mk ((by rw [hg]; exact (below_size (by repeat (first | (with_reducible first | exact HB.out | apply below_alloc | apply pw_below_drewN | apply below_drew1 | refine below_set ?_ (Aside0.out (by assumption))) | exact HB.out))) : w.heap.size ≤ gb357)); have n8_ := Aside0.mk ((by rw [hg]; exact Nat.ne_of_lt (blk_lt (qB BK335.out)) : gb335 ≠ gb357)); have n9_ := Aside0.mk ((by rw [hg]; exact Nat.ne_of_gt (blk_lt (qB BK335.out)) : gb357 ≠ gb335)); have n10_ := Aside0.mk ((by rw [hg]; exact Nat.ne_of_lt (blk_lt (qB BK342.out)) : gb342 ≠ gb357)); have n11_ := Aside0.mk ((by rw [hg]; exact Nat.ne_of_gt (blk_lt (qB BK342.out)) : gb357 ≠ gb342)); have n12_ := Aside0.mk ((by rw [hg]; exact Nat.ne_of_lt (blk_lt (qB BK346.out)) : gb346 ≠ gb357)); have n13_ := Aside0.mk ((by rw [hg]; exact Nat.ne_of_gt (blk_lt (qB BK346.out)) : gb357 ≠ gb346)); clear HO_343002; clear BK335; clear BK342; clear BK346; clear HB; have HO_343002 := n0_; have BK335 := n1_; have BK342 := n2_; have BK346 := n3_; have HB := n4_; have BK357 := n5_; have GW357 := n6_; have GE357 := n7_; have NB335_357 := n8_; have NB357_335 := n9_; have NB342_357 := n10_; have NB357_342 := n11_; have NB346_357 := n12_; have NB357_346 := n13_; clear n0_ n1_ n2_ n3_ n4_ n5_ n6_ n7_ n8_ n9_ n10_ n11_ n12_ n13_; clear hb hbox hg; have hnb44 := NB357_335.out; have hnc44 := NB335_357.out; have hnb45 := NB357_342.out; have hnc45 := NB342_357.out; have hnb46 := NB357_346.out; have hnc46 := NB346_357.out; have hcz47_0 : w43.cell? ⟨gb357, 0, none⟩ = some (.int .i64 0) := (blk_cell BK357.out 0).trans rfl; have hcz47_1 : w43.cell? ⟨gb357, 1, none⟩ = some (.int .i64 0) := (blk_cell BK357.out 1).trans rfl; have hfz47_0 := blk_frozen BK357.out 0; have hfz47_1 := blk_frozen BK357.out 1; have hnb48 := NB346_335.out; have hnc48 := NB335_346.out; have hcz49_0 : w43.cell? ⟨gb346, 0, none⟩ = some (.int .i64 t343) := (blk_cell BK346.out 0).trans rfl; have hcz49_1 : w43.cell? ⟨gb346, 1, none⟩ = some (.int .i64 t344) := (blk_cell BK346.out 1).trans rfl; have hfz49_0 := blk_frozen BK346.out 0; have hfz49_1 := blk_frozen BK346.out 1) | ((with_reducible refine gate_callee (f := 29) rfl ?_); refine goesL_ (some 70) rfl rfl Try.func29 (by kernel_rfl) rfl #[.agg #[.int .i64 t343, .int .i64 t344], .agg #[.int .i64 t355, .int .i64 t356]] rfl (by (try simp only [List.map_toArray, List.map_cons, List.map_nil]); first | done | rfl | (simp only [List.length_drop, List.length_take]; rfl)) ?_; (with_reducible refine (ratio_Sub.calls t343 t344 t355 t356 t358 t359 t360 _ A36.out).mono ?_); rintro e w50 ⟨rfl, hb⟩; refine ⟨_, rfl, ?_⟩; have n0_ := Aside0.mk (Kd.R_below (qR ((Kd.R_mono (Kd.R_far (p := ⟨gb357, 1, none⟩) (Kd.R_far (p := ⟨gb357, 0, none⟩) (Kd.R_types HO_343002.out BK357.out (by decide)) (fun _ hk => hk.2) (.int .i64 t355)) (fun _ hk => hk.2) (.int .i64 t356)) (fun _ h_ => h_.1)))) hb); have n1_ := Aside0.mk (blk_below (g := gb335) (o := .cells #[.int .i64 a0_0, .int .i64 a0_1, .slice A0_2 l0_2.length c0_2] 24 (0, 0)) (by (with_reducible repeat (first | refine blk_drewN ?_ _ | refine blk_drew ?_ | refine blk_alloc ?_ _)); refine blk_far ?_ NB335_357.out _; (with_reducible repeat (first | refine blk_drewN ?_ _ | refine blk_drew ?_ | refine blk_alloc ?_ _)); refine blk_far ?_ NB335_357.out _; (with_reducible repeat (first | refine blk_drewN ?_ _ | refine blk_drew ?_ | refine blk_alloc ?_ _)); exact BK335.out) hb); have n2_ := Aside0.mk (blk_below (g := gb342) (o := .cells #[.int .i64 t337, .int .i64 t338, .slice Ao18 t339.length co18] 24 (0, 0)) (by (with_reducible repeat (first | refine blk_drewN ?_ _ | refine blk_drew ?_ | refine blk_alloc ?_ _)); refine blk_far ?_ NB342_357.out _; (with_reducible repeat (first | refine blk_drewN ?_ _ | refine blk_drew ?_ | refine blk_alloc ?_ _)); refine blk_far ?_ NB342_357.out _; (with_reducible repeat (first | refine blk_drewN ?_ _ | refine blk_drew ?_ | refine blk_alloc ?_ _)); exact BK342.out) hb); have n3_ := Aside0.mk (blk_below (g := gb346) (o := .cells #[.int .i64 t343, .int .i64 t344] 26 (0, 0)) (by (with_reducible repeat (first | refine blk_drewN ?_ _ | refine blk_drew ?_ | refine blk_alloc ?_ _)); refine blk_far ?_ NB346_357.out _; (with_reducible repeat (first | refine blk_drewN ?_ _ | refine blk_drew ?_ | refine blk_alloc ?_ _)); refine blk_far ?_ NB346_357.out _; (with_reducible repeat (first | refine blk_drewN ?_ _ | refine blk_drew ?_ | refine blk_alloc ?_ _)); exact BK346.out) hb); have n4_ := Aside0.mk (blk_below (g := gb357) (o := .cells #[.int .i64 t355, .int .i64 t356] 26 (0, 0)) (by (with_reducible repeat (first | refine blk_drewN ?_ _ | refine blk_drew ?_ | refine blk_alloc ?_ _)); refine blk_put (cs := #[.int .i64 t355, .int .i64 0]) ?_ 1 _ rfl; (with_reducible repeat (first | refine blk_drewN ?_ _ | refine blk_drew ?_ | refine blk_alloc ?_ _)); refine blk_put (cs := #[.int .i64 0, .int .i64 0]) ?_ 0 _ rfl; (with_reducible repeat (first | refine blk_drewN ?_ _ | refine blk_drew ?_ | refine blk_alloc ?_ _)); exact BK357.out) hb); have n5_ := Aside0.mk (below_step (by repeat (first | (with_reducible first | exact HB.out | apply below_alloc | apply pw_below_drewN | apply below_drew1 | refine below_set ?_ (Aside0.out (by assumption))) | exact HB.out)) hb); clear HO_343002; clear BK335; clear BK342; clear BK346; clear BK357; clear HB; have HO_343002 := n0_; have BK335 := n1_; have BK342 := n2_; have BK346 := n3_; have BK357 := n4_; have HB := n5_; clear n0_ n1_ n2_ n3_ n4_ n5_; (try clear hb); (try clear hb2); (try clear hk); (try clear hi)) | ((with_reducible refine gate_dst (N := 18) rfl ?_); (try (refine gate_guard (by rfl) ?_; dsimp only)); refine box_event ?hg (N := 18) ?hd (cs := #[.int .i64 0, .int .i64 0]) (t := 26) ?hr ?_; (case hd => rfl); (case hg => rfl); (case hr => first | (go_simp; done) | (go_simp; rfl)); intro gb361 hg w51 hbox hb; have n0_ := Aside0.mk (Kd.R_below (qR HO_343002.out) hb); have n1_ := Aside0.mk (blk_below (qB BK335.out) hb); have n2_ := Aside0.mk (blk_below (qB BK342.out) hb); have n3_ := Aside0.mk (blk_below (qB BK346.out) hb); have n4_ := Aside0.mk (blk_below (qB BK357.out) hb); have n5_ := Aside0.mk (below_step (by repeat (first | (with_reducible first | exact HB.out | apply below_alloc | apply pw_below_drewN | apply below_drew1 | refine below_set ?_ (Aside0.out (by assumption))) | exact HB.out)) hb); have n6_ := Aside0.mk (hbox); have n7_ := Aside0.mk ((by rw [hg]; exact (below_size (by repeat (first | (with_reducible first | exact HB.out | apply below_alloc | apply pw_below_drewN | apply below_drew1 | refine below_set ?_ (Aside0.out (by assumption))) | exact HB.out))) : w.heap.size ≤ gb361)); have n8_ := Aside0.mk ((by rw [hg]; exact (below_size (by repeat (first | (with_reducible first | exact HB.out | apply below_alloc | apply pw_below_drewN | apply below_drew1 | refine below_set ?_ (Aside0.out (by assumption))) | exact HB.out))) : w.heap.size ≤ gb361)); have n9_ := Aside0.mk ((by rw [hg]; exact Nat.ne_of_lt (blk_lt (qB BK335.out)) : gb335 ≠ gb361)); have n10_ := Aside0.mk ((by rw [hg]; exact Nat.ne_of_gt (blk_lt (qB BK335.out)) : gb361 ≠ gb335)); have n11_ := Aside0.mk ((by rw [hg]; exact Nat.ne_of_lt (blk_lt (qB BK342.out)) : gb342 ≠ gb361)); have n12_ := Aside0.mk ((by rw [hg]; exact Nat.ne_of_gt (blk_lt (qB BK342.out)) : gb361 ≠ gb342)); have n13_ := Aside0.mk ((by rw [hg]; exact Nat.ne_of_lt (blk_lt (qB BK346.out)) : gb346 ≠ gb361)); have n14_ := Aside0.mk ((by rw [hg]; exact Nat.ne_of_gt (blk_lt (qB BK346.out)) : gb361 ≠ gb346)); have n15_ := Aside0.mk ((by rw [hg]; exact Nat.ne_of_lt (blk_lt (qB BK357.out)) : gb357 ≠ gb361)); have n16_ := Aside0.mk ((by rw [hg]; exact Nat.ne_of_gt (blk_lt (qB BK357.out)) : gb361 ≠ gb357)); clear HO_343002; clear BK335; clear BK342; clear BK346; clear BK357; clear HB; have HO_343002 := n0_; have BK335 := n1_; have BK342 := n2_; have BK346 := n3_; have BK357 := n4_; have HB := n5_; have BK361 := n6_; have GW361 := n7_; have GE361 := n8_; have NB335_361 := n9_; have NB361_335 := n10_; have NB342_361 := n11_; have NB361_342 := n12_; have NB346_361 := n13_; have NB361_346 := n14_; have NB357_361 := n15_; have NB361_357 := n16_; clear n0_ n1_ n2_ n3_ n4_ n5_ n6_ n7_ n8_ n9_ n10_ n11_ n12_ n13_ n14_ n15_ n16_; clear hb hbox hg; have hnb52 := NB361_335.out; have hnc52 := NB335_361.out; have hnb53 := NB361_342.out; have hnc53 := NB342_361.out; have hnb54 := NB361_346.out; have hnc54 := NB346_361.out; have hnb55 := NB361_357.out; have hnc55 := NB357_361.out; have hcz56_0 : w51.cell? ⟨gb361, 0, none⟩ = some (.int .i64 0) := (blk_cell BK361.out 0).trans rfl; have hcz56_1 : w51.cell? ⟨gb361, 1, none⟩ = some (.int .i64 0) := (blk_cell BK361.out 1).trans rfl; have hfz56_0 := blk_frozen BK361.out 0; have hfz56_1 := blk_frozen BK361.out 1; have hcz57_0 : w51.cell? ⟨gb342, 0, none⟩ = some (.int .i64 t337) := (blk_cell BK342.out 0).trans rfl; have hcz57_1 : w51.cell? ⟨gb342, 1, none⟩ = some (.int .i64 t338) := (blk_cell BK342.out 1).trans rfl; have hcz57_2 : w51.cell? ⟨gb342, 2, none⟩ = some (.slice Ao18 t339.length co18) := (blk_cell BK342.out 2).trans rfl; have hfz57_0 := blk_frozen BK342.out 0; have hfz57_1 := blk_frozen BK342.out 1; have hfz57_2 := blk_frozen BK342.out 2; have hcz58_0 : w51.cell? ⟨gb357, 0, none⟩ = some (.int .i64 t355) := (blk_cell BK357.out 0).trans rfl; have hcz58_1 : w51.cell? ⟨gb357, 1, none⟩ = some (.int .i64 t356) := (blk_cell BK357.out 1).trans rfl; have hfz58_0 := blk_frozen BK357.out 0; have hfz58_1 := blk_frozen BK357.out 1) | ((with_reducible refine gate_callee (f := 24) rfl ?_); refine goesL_ (some 77) rfl rfl Try.func24 (by kernel_rfl) rfl #[.agg #[.int .i64 t337, .int .i64 t338, .slice Ao18 t339.length co18], .agg #[.int .i64 t355, .int .i64 t356], .agg #[.int .i64 t358, .int .i64 t359]] rfl (by (try simp only [List.map_toArray, List.map_cons, List.map_nil]); first | done | rfl | (simp only [List.length_drop, List.length_take]; rfl)) ?_; (with_reducible refine (meter_Cut.calls kj9 t337 t338 _ _ t339 t355 t356 t358 t359 t362 t365 _ ?side1 ?side2 A37.out).mono ?_); (case side1 => refine (Kd.R_reads' (e := 3) (base := w.heap.size) (ok := fun k_ => True) (n := t339.length) (c := co18) ?_).2.2; exact (qR ((Kd.R_mono (Kd.R_far (p := ⟨gb361, 1, none⟩) (Kd.R_far (p := ⟨gb361, 0, none⟩) (Kd.R_types HO_343002.out BK361.out (by decide)) (fun _ hk => hk.2) (.int .i64 t358)) (fun _ hk => hk.2) (.int .i64 t359)) (fun _ h_ => h_.1))))); (case side2 => exact (Kd.R_reads' HO_343002.out).2.1); rintro e w59 ⟨v363, rfl, ho0, hb⟩; refine ⟨_, rfl, ?_⟩; have n0_ := Aside0.mk (Kd.R_below (qR ((Kd.R_mono (Kd.R_far (p := ⟨gb361, 1, none⟩) (Kd.R_far (p := ⟨gb361, 0, none⟩) (Kd.R_types HO_343002.out BK361.out (by decide)) (fun _ hk => hk.2) (.int .i64 t358)) (fun _ hk => hk.2) (.int .i64 t359)) (fun _ h_ => h_.1)))) hb); have n1_ := Aside0.mk (Kd.R_lower (Kd.R_newB (Kd.R_newB (Kd.R_newB ho0 (g := gb346) (o := .cells #[.int .i64 t343, .int .i64 t344] 26 (0, 0)) (by (with_reducible repeat (first | refine blk_drewN ?_ _ | refine blk_drew ?_ | refine blk_alloc ?_ _)); refine blk_far ?_ NB346_361.out _; (with_reducible repeat (first | refine blk_drewN ?_ _ | refine blk_drew ?_ | refine blk_alloc ?_ _)); refine blk_far ?_ NB346_361.out _; (with_reducible repeat (first | refine blk_drewN ?_ _ | refine blk_drew ?_ | refine blk_alloc ?_ _)); exact BK346.out)) (g := gb357) (o := .cells #[.int .i64 t355, .int .i64 t356] 26 (0, 0)) (by (with_reducible repeat (first | refine blk_drewN ?_ _ | refine blk_drew ?_ | refine blk_alloc ?_ _)); refine blk_far ?_ NB357_361.out _; (with_reducible repeat (first | refine blk_drewN ?_ _ | refine blk_drew ?_ | refine blk_alloc ?_ _)); refine blk_far ?_ NB357_361.out _; (with_reducible repeat (first | refine blk_drewN ?_ _ | refine blk_drew ?_ | refine blk_alloc ?_ _)); exact BK357.out)) (g := gb361) (o := .cells #[.int .i64 t358, .int .i64 t359] 26 (0, 0)) (by (with_reducible repeat (first | refine blk_drewN ?_ _ | refine blk_drew ?_ | refine blk_alloc ?_ _)); refine blk_put (cs := #[.int .i64 t358, .int .i64 0]) ?_ 1 _ rfl; (with_reducible repeat (first | refine blk_drewN ?_ _ | refine blk_drew ?_ | refine blk_alloc ?_ _)); refine blk_put (cs := #[.int .i64 0, .int .i64 0]) ?_ 0 _ rfl; (with_reducible repeat (first | refine blk_drewN ?_ _ | refine blk_drew ?_ | refine blk_alloc ?_ _)); exact BK361.out)) (below_size (by repeat (first | (with_reducible first | exact HB.out | apply below_alloc | apply pw_below_drewN | apply below_drew1 | refine below_set ?_ (Aside0.out (by assumption))) | exact HB.out)))); have n2_ := Aside0.mk (blk_below (g := gb335) (o := .cells #[.int .i64 a0_0, .int .i64 a0_1, .slice A0_2 l0_2.length c0_2] 24 (0, 0)) (by (with_reducible repeat (first | refine blk_drewN ?_ _ | refine blk_drew ?_ | refine blk_alloc ?_ _)); refine blk_far ?_ NB335_361.out _; (with_reducible repeat (first | refine blk_drewN ?_ _ | refine blk_drew ?_ | refine blk_alloc ?_ _)); refine blk_far ?_ NB335_361.out _; (with_reducible repeat (first | refine blk_drewN ?_ _ | refine blk_drew ?_ | refine blk_alloc ?_ _)); exact BK335.out) hb); have n3_ := Aside0.mk (blk_below (g := gb342) (o := .cells #[.int .i64 t337, .int .i64 t338, .slice Ao18 t339.length co18] 24 (0, 0)) (by (with_reducible repeat (first | refine blk_drewN ?_ _ | refine blk_drew ?_ | refine blk_alloc ?_ _)); refine blk_far ?_ NB342_361.out _; (with_reducible repeat (first | refine blk_drewN ?_ _ | refine blk_drew ?_ | refine blk_alloc ?_ _)); refine blk_far ?_ NB342_361.out _; (with_reducible repeat (first | refine blk_drewN ?_ _ | refine blk_drew ?_ | refine blk_alloc ?_ _)); exact BK342.out) hb); have n4_ := Aside0.mk (blk_below (g := gb346) (o := .cells #[.int .i64 t343, .int .i64 t344] 26 (0, 0)) (by (with_reducible repeat (first | refine blk_drewN ?_ _ | refine blk_drew ?_ | refine blk_alloc ?_ _)); refine blk_far ?_ NB346_361.out _; (with_reducible repeat (first | refine blk_drewN ?_ _ | refine blk_drew ?_ | refine blk_alloc ?_ _)); refine blk_far ?_ NB346_361.out _; (with_reducible repeat (first | refine blk_drewN ?_ _ | refine blk_drew ?_ | refine blk_alloc ?_ _)); exact BK346.out) hb); have n5_ := Aside0.mk (blk_below (g := gb357) (o := .cells #[.int .i64 t355, .int .i64 t356] 26 (0, 0)) (by (with_reducible repeat (first | refine blk_drewN ?_ _ | refine blk_drew ?_ | refine blk_alloc ?_ _)); refine blk_far ?_ NB357_361.out _; (with_reducible repeat (first | refine blk_drewN ?_ _ | refine blk_drew ?_ | refine blk_alloc ?_ _)); refine blk_far ?_ NB357_361.out _; (with_reducible repeat (first | refine blk_drewN ?_ _ | refine blk_drew ?_ | refine blk_alloc ?_ _)); exact BK357.out) hb); have n6_ := Aside0.mk (blk_below (g := gb361) (o := .cells #[.int .i64 t358, .int .i64 t359] 26 (0, 0)) (by (with_reducible repeat (first | refine blk_drewN ?_ _ | refine blk_drew ?_ | refine blk_alloc ?_ _)); refine blk_put (cs := #[.int .i64 t358, .int .i64 0]) ?_ 1 _ rfl; (with_reducible repeat (first | refine blk_drewN ?_ _ | refine blk_drew ?_ | refine blk_alloc ?_ _)); refine blk_put (cs := #[.int .i64 0, .int .i64 0]) ?_ 0 _ rfl; (with_reducible repeat (first | refine blk_drewN ?_ _ | refine blk_drew ?_ | refine blk_alloc ?_ _)); exact BK361.out) hb); have n7_ := Aside0.mk (below_step (by repeat (first | (with_reducible first | exact HB.out | apply below_alloc | apply pw_below_drewN | apply below_drew1 | refine below_set ?_ (Aside0.out (by assumption))) | exact HB.out)) hb); clear HO_343002; clear BK335; clear BK342; clear BK346; clear BK357; clear BK361; clear HB; have HO_343002 := n0_; have HO364 := n1_; have BK335 := n2_; have BK342 := n3_; have BK346 := n4_; have BK357 := n5_; have BK361 := n6_; have HB := n7_; clear n0_ n1_ n2_ n3_ n4_ n5_ n6_ n7_; (try clear hb); (try clear hb2); (try clear hk); (try clear hi); (try clear ho0)))
     (try simp only [Act.put, qa_, qz_, qs_])
     go_cut [85] (fun v85 wc => ∃ (kq : Nat) (x85_37 : Bool), v85 = .bool x85_37 ∧ Aside0 (partitalaw05_MeterAgain.j1 kq t336 t362 x85_37 t337 t338 t339 t343 t344 t355 t356 = some r) ∧ Aside0 (kq ≤ kj9) ∧ Aside0 (Kd.R k26 26 wc w.heap.size (fun k_ => k_ ≠ gb346 ∧ k_ ≠ gb357 ∧ k_ ≠ gb361) v363 t362) ∧ Aside0 (Kd.R (Kd.int .i64) 3 wc w.heap.size (fun _ => True) (.slice Ao18 t339.length co18) t339) ∧ Aside0 (wc.heap[gb335]? = some (.cells #[.int .i64 a0_0, .int .i64 a0_1, (.slice A0_2 l0_2.length c0_2)] 24 (0, 0))) ∧ Aside0 (wc.heap[gb342]? = some (.cells #[.int .i64 t337, .int .i64 t338, (.slice Ao18 t339.length co18)] 24 (0, 0))) ∧ Aside0 (wc.heap[gb346]? = some (.cells #[.int .i64 t343, .int .i64 t344] 26 (0, 0))) ∧ Aside0 (wc.heap[gb357]? = some (.cells #[.int .i64 t355, .int .i64 t356] 26 (0, 0))) ∧ Aside0 (wc.heap[gb361]? = some (.cells #[.int .i64 t358, .int .i64 t359] 26 (0, 0))) ∧ Aside0 (Below w.heap.size w wc))
     case first =>
      have H := HC38.out
      clear HC38
      by_cases c60 : t360 = 0
      · rw [if_pos c60] at H
        have c60b0 : (t360 == 0) = true := beq_iff_eq.mpr c60
        have c60b1 : (t360 != 0) = false := bne_eq_false_iff_eq.mpr c60
        clear c60
        (first | rw [c60b0] | (simp only [i64_w, i32_w]; rw [c60b0]) | skip)
        have H' := Aside0.mk H
        clear H
        go_wp2
        go_meet
        case rel => exact ⟨_, ((t365 != 0)), (by first | rfl | (simp; done) | (simp [*]; done)), H', ⟨by have := HJ9.out; first | omega | exact Nat.le_refl _⟩, ⟨by (with_reducible repeat (first | apply Kd.R_alloc | apply Kd.R_drewN | apply Kd.R_drew)); exact Kd.R_mono HO364.out (fun _ hk => ⟨hk.1.1.2, ⟨hk.1.2, hk.2⟩⟩)⟩, ⟨by (with_reducible repeat (first | apply Kd.R_alloc | apply Kd.R_drewN | apply Kd.R_drew)); exact HO_343002.out⟩, ⟨by (with_reducible repeat (first | refine blk_drewN ?_ _ | refine blk_drew ?_ | refine blk_alloc ?_ _)); exact BK335.out⟩, ⟨by (with_reducible repeat (first | refine blk_drewN ?_ _ | refine blk_drew ?_ | refine blk_alloc ?_ _)); exact BK342.out⟩, ⟨by (with_reducible repeat (first | refine blk_drewN ?_ _ | refine blk_drew ?_ | refine blk_alloc ?_ _)); exact BK346.out⟩, ⟨by (with_reducible repeat (first | refine blk_drewN ?_ _ | refine blk_drew ?_ | refine blk_alloc ?_ _)); exact BK357.out⟩, ⟨by (with_reducible repeat (first | refine blk_drewN ?_ _ | refine blk_drew ?_ | refine blk_alloc ?_ _)); exact BK361.out⟩, ⟨by repeat (first | (with_reducible first | exact HB.out | apply below_alloc | apply pw_below_drewN | apply below_drew1 | refine below_set ?_ (Aside0.out (by assumption))) | exact HB.out)⟩⟩
      · rw [if_neg c60] at H
        have c60b0 : (t360 == 0) = false := beq_eq_false_iff_ne.mpr c60
        have c60b1 : (t360 != 0) = true := bne_iff_ne.mpr c60
        (first | rw [c60b0] | (simp only [i64_w, i32_w]; rw [c60b0]) | skip)
        have H' := Aside0.mk H
        clear H
        go_wp2
        go_meet
        case rel => exact ⟨_, (true), (by first | rfl | (simp; done) | (simp [*]; done)), H', ⟨by have := HJ9.out; first | omega | exact Nat.le_refl _⟩, ⟨by (with_reducible repeat (first | apply Kd.R_alloc | apply Kd.R_drewN | apply Kd.R_drew)); exact Kd.R_mono HO364.out (fun _ hk => ⟨hk.1.1.2, ⟨hk.1.2, hk.2⟩⟩)⟩, ⟨by (with_reducible repeat (first | apply Kd.R_alloc | apply Kd.R_drewN | apply Kd.R_drew)); exact HO_343002.out⟩, ⟨by (with_reducible repeat (first | refine blk_drewN ?_ _ | refine blk_drew ?_ | refine blk_alloc ?_ _)); exact BK335.out⟩, ⟨by (with_reducible repeat (first | refine blk_drewN ?_ _ | refine blk_drew ?_ | refine blk_alloc ?_ _)); exact BK342.out⟩, ⟨by (with_reducible repeat (first | refine blk_drewN ?_ _ | refine blk_drew ?_ | refine blk_alloc ?_ _)); exact BK346.out⟩, ⟨by (with_reducible repeat (first | refine blk_drewN ?_ _ | refine blk_drew ?_ | refine blk_alloc ?_ _)); exact BK357.out⟩, ⟨by (with_reducible repeat (first | refine blk_drewN ?_ _ | refine blk_drew ?_ | refine blk_alloc ?_ _)); exact BK361.out⟩, ⟨by repeat (first | (with_reducible first | exact HB.out | apply below_alloc | apply pw_below_drewN | apply below_drew1 | refine below_set ?_ (Aside0.out (by assumption))) | exact HB.out)⟩⟩
     case rest =>
      clear HC38
      try clear c1
      try clear c2
      try clear p2
      try clear c3
      try clear c4
      try clear c5
      try clear c6
      try clear c10
      try clear c11
      try clear c12
      try clear c14
      try clear c16
      try clear c21
      try clear c22
      try clear c24
      try clear c29
      try clear c29b0
      try clear c29b1
      try clear c30
      try clear c30b0
      try clear c30b1
      try clear c31
      try clear c31b0
      try clear c31b1
      try clear c34
      try clear c39
      try clear c40
      try clear c44
      try clear c45
      try clear c46
      try clear c48
      try clear c52
      try clear c53
      try clear c54
      try clear c55
      try clear c60
      try clear c60b0
      try clear c60b1
      try clear hcz13_0
      try clear hcz13_1
      try clear hcz13_2
      try clear hcz17_0
      try clear hcz17_1
      try clear hcz17_2
      try clear hcz23_0
      try clear hcz23_1
      try clear hcz24_0
      try clear hcz24_1
      try clear hcz24_2
      try clear hcz26_0
      try clear hcz26_1
      try clear hcz26_2
      try clear hcz27_0
      try clear hcz27_1
      try clear hcz41_0
      try clear hcz41_1
      try clear hcz41_2
      try clear hcz47_0
      try clear hcz47_1
      try clear hcz49_0
      try clear hcz49_1
      try clear hcz56_0
      try clear hcz56_1
      try clear hcz57_0
      try clear hcz57_1
      try clear hcz57_2
      try clear hcz58_0
      try clear hcz58_1
      try clear hfz13_0
      try clear hfz13_1
      try clear hfz13_2
      try clear hfz17_0
      try clear hfz17_1
      try clear hfz17_2
      try clear hfz23_0
      try clear hfz23_1
      try clear hfz24_0
      try clear hfz24_1
      try clear hfz24_2
      try clear hfz26_0
      try clear hfz26_1
      try clear hfz26_2
      try clear hfz27_0
      try clear hfz27_1
      try clear hfz41_0
      try clear hfz41_1
      try clear hfz41_2
      try clear hfz47_0
      try clear hfz47_1
      try clear hfz49_0
      try clear hfz49_1
      try clear hfz56_0
      try clear hfz56_1
      try clear hfz57_0
      try clear hfz57_1
      try clear hfz57_2
      try clear hfz58_0
      try clear hfz58_1
      try clear p2
      obtain ⟨kq, x85_37, rfl, HA, HJ37, HO_15, HO_343002, BK335, BK342, BK346, BK357, BK361, HB⟩ := hcut
      cases kq with
      | zero => exact absurd HA.out (by simp [partitalaw05_MeterAgain.j1])
      | succ kj37 =>
       have H := HA.out
       clear HA
       simp only [partitalaw05_MeterAgain.j1] at H
       by_cases c61 : x85_37 = true
       · subst c61
         have H1 : none = some r := by rw [if_pos rfl] at H; exact H
         cases H1
       · replace c61 := Bool.eq_false_iff.mpr c61
         subst c61
         have H1 : (partitalaw05_MeterAgain.l0 kj37 t336 t362 0 t337 t338 t339 t343 t344 t355 t356) = some r := by rw [if_neg (show ¬ (false = true) by decide)] at H; exact H
         clear H
         have H := H1
         clear H1
         have H' := Aside0.mk H
         clear H
         go_wp2
         go_loopg [20] kj37 (fun kq v20 w' => ∃ (x20_3 : Int) (x358000_3 : Int) (x358001_3 : Int), v20 = .int .i64 x20_3 ∧ Aside0 (partitalaw05_MeterAgain.l0 kq t336 t362 x20_3 t337 t338 t339 t343 t344 x358000_3 x358001_3 = some r) ∧ Aside0 (kq ≤ kj37) ∧ Aside0 (Kd.R k26 26 w' w.heap.size (fun k_ => k_ ≠ gb346 ∧ k_ ≠ gb357 ∧ k_ ≠ gb361) v363 t362) ∧ Aside0 (Kd.R (Kd.int .i64) 3 w' w.heap.size (fun _ => True) (.slice Ao18 t339.length co18) t339) ∧ Aside0 (w'.heap[gb335]? = some (.cells #[.int .i64 a0_0, .int .i64 a0_1, (.slice A0_2 l0_2.length c0_2)] 24 (0, 0))) ∧ Aside0 (w'.heap[gb342]? = some (.cells #[.int .i64 t337, .int .i64 t338, (.slice Ao18 t339.length co18)] 24 (0, 0))) ∧ Aside0 (w'.heap[gb346]? = some (.cells #[.int .i64 t343, .int .i64 t344] 26 (0, 0))) ∧ Aside0 (w'.heap[gb357]? = some (.cells #[.int .i64 x358000_3, .int .i64 x358001_3] 26 (0, 0))) ∧ Aside0 (w'.heap[gb361]? = some (.cells #[.int .i64 t358, .int .i64 t359] 26 (0, 0))) ∧ Aside0 (Below w.heap.size w w'))
         case atStart => exact ⟨(0), (t355), (t356), (by first | rfl | (simp; done) | (simp [*]; done)), H', ⟨Nat.le_refl _⟩, ⟨by (with_reducible repeat (first | apply Kd.R_alloc | apply Kd.R_drewN | apply Kd.R_drew)); exact HO_15.out⟩, ⟨by (with_reducible repeat (first | apply Kd.R_alloc | apply Kd.R_drewN | apply Kd.R_drew)); exact HO_343002.out⟩, ⟨by (with_reducible repeat (first | refine blk_drewN ?_ _ | refine blk_drew ?_ | refine blk_alloc ?_ _)); exact BK335.out⟩, ⟨by (with_reducible repeat (first | refine blk_drewN ?_ _ | refine blk_drew ?_ | refine blk_alloc ?_ _)); exact BK342.out⟩, ⟨by (with_reducible repeat (first | refine blk_drewN ?_ _ | refine blk_drew ?_ | refine blk_alloc ?_ _)); exact BK346.out⟩, ⟨by (with_reducible repeat (first | refine blk_drewN ?_ _ | refine blk_drew ?_ | refine blk_alloc ?_ _)); exact BK357.out⟩, ⟨by (with_reducible repeat (first | refine blk_drewN ?_ _ | refine blk_drew ?_ | refine blk_alloc ?_ _)); exact BK361.out⟩, ⟨by repeat (first | (with_reducible first | exact HB.out | apply below_alloc | apply pw_below_drewN | apply below_drew1 | refine below_set ?_ (Aside0.out (by assumption))) | exact HB.out)⟩⟩
         case round =>
          clear H'
          try clear c1
          try clear c2
          try clear p2
          try clear c3
          try clear c4
          try clear c5
          try clear c6
          try clear c10
          try clear c11
          try clear c12
          try clear c14
          try clear c16
          try clear c21
          try clear c22
          try clear c24
          try clear c29
          try clear c29b0
          try clear c29b1
          try clear c30
          try clear c30b0
          try clear c30b1
          try clear c31
          try clear c31b0
          try clear c31b1
          try clear c34
          try clear c39
          try clear c40
          try clear c44
          try clear c45
          try clear c46
          try clear c48
          try clear c52
          try clear c53
          try clear c54
          try clear c55
          try clear c60
          try clear c60b0
          try clear c60b1
          try clear c61
          try clear hcz13_0
          try clear hcz13_1
          try clear hcz13_2
          try clear hcz17_0
          try clear hcz17_1
          try clear hcz17_2
          try clear hcz23_0
          try clear hcz23_1
          try clear hcz24_0
          try clear hcz24_1
          try clear hcz24_2
          try clear hcz26_0
          try clear hcz26_1
          try clear hcz26_2
          try clear hcz27_0
          try clear hcz27_1
          try clear hcz41_0
          try clear hcz41_1
          try clear hcz41_2
          try clear hcz47_0
          try clear hcz47_1
          try clear hcz49_0
          try clear hcz49_1
          try clear hcz56_0
          try clear hcz56_1
          try clear hcz57_0
          try clear hcz57_1
          try clear hcz57_2
          try clear hcz58_0
          try clear hcz58_1
          try clear hfz13_0
          try clear hfz13_1
          try clear hfz13_2
          try clear hfz17_0
          try clear hfz17_1
          try clear hfz17_2
          try clear hfz23_0
          try clear hfz23_1
          try clear hfz24_0
          try clear hfz24_1
          try clear hfz24_2
          try clear hfz26_0
          try clear hfz26_1
          try clear hfz26_2
          try clear hfz27_0
          try clear hfz27_1
          try clear hfz41_0
          try clear hfz41_1
          try clear hfz41_2
          try clear hfz47_0
          try clear hfz47_1
          try clear hfz49_0
          try clear hfz49_1
          try clear hfz56_0
          try clear hfz56_1
          try clear hfz57_0
          try clear hfz57_1
          try clear hfz57_2
          try clear hfz58_0
          try clear hfz58_1
          try clear p2
          obtain ⟨x20_3, x358000_3, x358001_3, rfl, HA, HK3, HO_15, HO_343002, BK335, BK342, BK346, BK357, BK361, HB⟩ := hrel
          cases gk with
          | zero => exact absurd HA.out (by simp [partitalaw05_MeterAgain.l0])
          | succ k3 =>
           have H := HA.out
           clear HA
           simp only [partitalaw05_MeterAgain.l0] at H
           by_cases c62 : x20_3 < (t362.length : Int)
           · rw [if_pos c62] at H
             have c62b0 : decide (x20_3 < (t362.length : Int)) = true := decide_eq_true c62
             clear c62
             by_cases c63 : 0 ≤ x20_3
             · rw [if_pos c63] at H
               have c63b0 : decide (0 ≤ x20_3) = true := decide_eq_true c63
               clear c63
               replace H := Option.bind_eq_some_iff.mp H
               obtain ⟨⟨t367, t370⟩, A640, H⟩ := H
               replace H : (if t370 = 0 then (if (t367.length : Int) = 1 then (if 0 < (t367.length : Int) then (partitalaw05_MeterAgain.j3 k3 t336 t362 x20_3 (!(((rd_T26 t367 0).f0) == ((rd_T26 t362 x20_3).f0)) || (!(((rd_T26 t367 0).f1) == ((rd_T26 t362 x20_3).f1)))) t337 t338 t339 t343 t344 x358000_3 x358001_3) else (none)) else (partitalaw05_MeterAgain.j3 k3 t336 t362 x20_3 true t337 t338 t339 t343 t344 x358000_3 x358001_3)) else (partitalaw05_MeterAgain.j3 k3 t336 t362 x20_3 true t337 t338 t339 t343 t344 x358000_3 x358001_3)) = some r := H
               have A64 := Aside0.mk A640
               clear A640
               have HC65 := Aside0.mk H
               clear H
               obtain ⟨Ao66, co66, eo66⟩ := Kd.R_slice HO_15.out
               subst eo66
               try go_wp2
               have n0_ := Aside0.mk (Kd.R_drew HO_15.out)
               have n1_ := Aside0.mk (Kd.R_drew HO_343002.out)
               have n2_ := Aside0.mk (blk_drew BK335.out)
               have n3_ := Aside0.mk (blk_drew BK342.out)
               have n4_ := Aside0.mk (blk_drew BK346.out)
               have n5_ := Aside0.mk (blk_drew BK357.out)
               have n6_ := Aside0.mk (blk_drew BK361.out)
               have n7_ := Aside0.mk (below_drew1 HB.out)
               clear HO_15
               clear HO_343002
               clear BK335
               clear BK342
               clear BK346
               clear BK357
               clear BK361
               clear HB
               have HO_15 := n0_
               have HO_343002 := n1_
               have BK335 := n2_
               have BK342 := n3_
               have BK346 := n4_
               have BK357 := n5_
               have BK361 := n6_
               have HB := n7_
               clear n0_ n1_ n2_ n3_ n4_ n5_ n6_ n7_
               have p366 : 0 ≤ (x20_3 : Int) := of_decide_eq_true (by first | (with_reducible assumption) | assumption)
               have q366 : x20_3 < (t362.length : Int) := of_decide_eq_true (by first | (with_reducible assumption) | assumption)
               obtain ⟨ad366, e366, hx366_0, hx366_1⟩ := at_T26 (Kd.R_reads' HO_15.out).2.2 x20_3 p366 q366
               cases e366
               replace p366 := eq_true p366
               replace q366 := eq_true q366
               refine start_ (n := 12) (S := fun w' => w'.cell? ⟨gb342, 0, none⟩ = some (.int .i64 t337) ∧ w'.cell? ⟨gb342, 1, none⟩ = some (.int .i64 t338) ∧ w'.cell? ⟨gb342, 2, none⟩ = some (.slice Ao18 t339.length co18) ∧ w'.cell? ⟨gb357, 0, none⟩ = some (.int .i64 x358000_3) ∧ w'.cell? ⟨gb357, 1, none⟩ = some (.int .i64 x358001_3) ∧ w'.cell? (ad366.add ((x20_3).toNat * 2)) = some (.int .i64 ((rd_T26 t362 x20_3).f0)) ∧ w'.cell? ⟨(ad366.add ((x20_3).toNat * 2)).block, (ad366.add ((x20_3).toNat * 2)).off + 1, none⟩ = some (.int .i64 ((rd_T26 t362 x20_3).f1))) (ds := []) #[false, false, false, false, false, false, false, false, false, false, false, false] (by kernel_rfl) rfl rfl ⟨(blk_cell BK342.out 0).trans rfl, (blk_cell BK342.out 1).trans rfl, (blk_cell BK342.out 2).trans rfl, (blk_cell BK357.out 0).trans rfl, (blk_cell BK357.out 1).trans rfl, hx366_0, hx366_1⟩ (fun hHeld => ?_); refine with_tabW partitalaw05_MeterAgain.tab16 partitalaw05_MeterAgain.bits16 (fun HT_ HW_ => ?_)
               generalize wr.drew = w67 at HO_15 HO_343002 BK335 BK342 BK346 BK357 BK361 HB hx366_0 hx366_1 hHeld ⊢
               refine pure_ (i := 2) (N := some 95) (v := ?_) (a' := ?_) #[false, false, true, false, false, false, false, false, false, false, false, false] rfl rfl (any_of HT_.out (by kernel_rfl)) (fun _ _ _ h => h) (Or.inl ⟨by rfl, ?_⟩) ?_ ?_
               rotate_left
               · intro w'
                 go_simp
                 with_reducible rfl
               rotate_left
               · simp only [Act.put, qa_, qz_, qs_, i64_w, i32_w]
                 rfl
               refine pure_ (i := 3) (N := some 96) (v := ?_) (a' := ?_) #[false, false, true, true, false, false, false, false, false, false, false, false] rfl rfl (any_of HT_.out (by kernel_rfl)) (fun _ _ _ h => h) (Or.inl ⟨by rfl, ?_⟩) ?_ ?_
               rotate_left
               · intro w'
                 go_simp
                 with_reducible rfl
               rotate_left
               · simp only [Act.put, qa_, qz_, qs_, i64_w, i32_w]
                 rfl
               refine pure_ (i := 4) (N := some 97) (v := ?_) (a' := ?_) #[false, false, true, true, true, false, false, false, false, false, false, false] rfl rfl (any_of HT_.out (by kernel_rfl)) (fun _ _ _ h => h) (Or.inl ⟨by rfl, ?_⟩) ?_ ?_
               rotate_left
               · intro w'
                 go_simp
                 with_reducible rfl
               rotate_left
               · simp only [Act.put, qa_, qz_, qs_, i64_w, i32_w]
                 rfl
               refine take_ (i := 0) (N := some 93) (v := ?_) (a' := ?_) #[true, false, true, true, true, false, false, false, false, false, false, false] rfl rfl (take_ofW HT_.out HW_.out (by kernel_rfl)) (fun _ _ _ h => h) (Or.inl ⟨by rfl, ?_⟩) hHeld ?_ ?_
               rotate_left
               · rintro w' ⟨s0, s1, s2, s3, s4, s5, s6⟩
                 go_simp
                 with_reducible rfl
               rotate_left
               · simp only [Act.put, qa_, qz_, qs_, i64_w, i32_w]
                 rfl
               refine take_ (i := 1) (N := some 94) (v := ?_) (a' := ?_) #[true, true, true, true, true, false, false, false, false, false, false, false] rfl rfl (take_ofW HT_.out HW_.out (by kernel_rfl)) (fun _ _ _ h => h) (Or.inl ⟨by rfl, ?_⟩) hHeld ?_ ?_
               rotate_left
               · rintro w' ⟨s0, s1, s2, s3, s4, s5, s6⟩
                 go_simp
                 with_reducible rfl
               rotate_left
               · simp only [Act.put, qa_, qz_, qs_, i64_w, i32_w]
                 rfl
               refine take_ (i := 5) (N := some 98) (v := ?_) (a' := ?_) #[true, true, true, true, true, true, false, false, false, false, false, false] rfl rfl (take_ofW HT_.out HW_.out (by kernel_rfl)) (fun _ _ _ h => h) (Or.inl ⟨by rfl, ?_⟩) hHeld ?_ ?_
               rotate_left
               · rintro w' ⟨s0, s1, s2, s3, s4, s5, s6⟩
                 go_simp
                 with_reducible rfl
               rotate_left
               · simp only [Act.put, qa_, qz_, qs_, i64_w, i32_w]
                 rfl
               refine one_ (i := 6) (N := some 99) #[true, true, true, true, true, true, true, false, false, false, false, false] rfl rfl (one_of HT_.out (by kernel_rfl)) (by decide) (fun K hK => ?_)
               refine goes_ Try.func24 (by kernel_rfl) rfl #[.agg #[.int .i64 t337, .int .i64 t338, .slice Ao18 t339.length co18], .agg #[.int .i64 x358000_3, .int .i64 x358001_3], .agg #[.int .i64 ((rd_T26 t362 x20_3).f0), .int .i64 ((rd_T26 t362 x20_3).f1)]] (by rfl) rfl rfl (by (try simp only [List.map_toArray, List.map_cons, List.map_nil]); first | done | rfl | (simp only [List.length_drop, List.length_take]; rfl)) ?_
               with_reducible refine (meter_Cut.calls k3 t337 t338 _ _ t339 x358000_3 x358001_3 ((rd_T26 t362 x20_3).f0) ((rd_T26 t362 x20_3).f1) t367 t370 _ ?side1 ?side2 A64.out).mono ?_
               (case side1 => repeat (first | exact (Kd.R_reads' HO_343002.out).2.2 | (with_reducible refine Kd.C_alloc ?_ _) | (with_reducible refine Kd.C_drewN ?_ _) | (with_reducible refine Kd.C_drew ?_)))
               (case side2 => exact (Kd.R_reads' HO_343002.out).2.1)
               rintro e w68 ⟨v368, rfl, ho0, hb⟩
               have HS5_ := (hb.cell (World.block_lt_of_cell? _ _ (hHeld.2.2.2.2.2.1))).trans (hHeld.2.2.2.2.2.1)
               have HS6_ := (hb.cell (World.block_lt_of_cell? _ _ (hHeld.2.2.2.2.2.2))).trans (hHeld.2.2.2.2.2.2)
               refine ⟨_, rfl, ?_⟩
               have n0_ := Aside0.mk (Kd.R_elder' (qR HO_15.out) (Kd.R_base ho0) hb)
               have n1_ := Aside0.mk (Kd.R_below (qR HO_343002.out) hb)
               have n2_ := Aside0.mk (Kd.R_lower (Kd.R_newB (Kd.R_newB (Kd.R_newB (Kd.R_new' ho0 (Kd.R_lt (qR HO_15.out))) (qB BK346.out)) (qB BK357.out)) (qB BK361.out)) (below_size (by repeat (first | (with_reducible first | exact HB.out | apply below_alloc | apply pw_below_drewN | apply below_drew1 | refine below_set ?_ (Aside0.out (by assumption))) | exact HB.out))))
               have n3_ := Aside0.mk (blk_below (qB BK335.out) hb)
               have n4_ := Aside0.mk (blk_below (qB BK342.out) hb)
               have n5_ := Aside0.mk (blk_below (qB BK346.out) hb)
               have n6_ := Aside0.mk (blk_below (qB BK357.out) hb)
               have n7_ := Aside0.mk (blk_below (qB BK361.out) hb)
               have n8_ := Aside0.mk (below_step (by repeat (first | (with_reducible first | exact HB.out | apply below_alloc | apply pw_below_drewN | apply below_drew1 | refine below_set ?_ (Aside0.out (by assumption))) | exact HB.out)) hb)
               clear HO_15
               clear HO_343002
               clear BK335
               clear BK342
               clear BK346
               clear BK357
               clear BK361
               clear HB
               have HO_15 := n0_
               have HO_343002 := n1_
               have HO369 := n2_
               have BK335 := n3_
               have BK342 := n4_
               have BK346 := n5_
               have BK357 := n6_
               have BK361 := n7_
               have HB := n8_
               clear n0_ n1_ n2_ n3_ n4_ n5_ n6_ n7_ n8_
               (try clear hb)
               (try clear hb2)
               (try clear hk)
               (try clear hi)
               (try clear ho0)
               refine hK.out _ _ ⟨(blk_cell BK342.out 0).trans rfl, (blk_cell BK342.out 1).trans rfl, (blk_cell BK342.out 2).trans rfl, (blk_cell BK357.out 0).trans rfl, (blk_cell BK357.out 1).trans rfl, HS5_, HS6_⟩ (fun hHeld => ?_)
               clear hK K
               refine norm_ (a' := ?_) ?_ ?_
               rotate_left
               · show Act.put _ (some 99) _ = _
                 simp only [Act.put, qa_, qz_, qs_, i64_w, i32_w]
                 rfl
               refine pure_ (i := 7) (N := some 92) (v := ?_) (a' := ?_) #[true, true, true, true, true, true, true, true, false, false, false, false] rfl rfl (any_of HT_.out (by kernel_rfl)) (fun _ _ _ h => h) (Or.inl ⟨by rfl, ?_⟩) ?_ ?_
               rotate_left
               · intro w'
                 go_simp
                 with_reducible rfl
               rotate_left
               · simp only [Act.put, qa_, qz_, qs_, i64_w, i32_w]
                 rfl
               refine pure_ (i := 8) (N := some 100) (v := ?_) (a' := ?_) #[true, true, true, true, true, true, true, true, true, false, false, false] rfl rfl (any_of HT_.out (by kernel_rfl)) (fun _ _ _ h => h) (Or.inl ⟨by rfl, ?_⟩) ?_ ?_
               rotate_left
               · intro w'
                 go_simp
                 with_reducible rfl
               rotate_left
               · simp only [Act.put, qa_, qz_, qs_, i64_w, i32_w]
                 rfl
               refine pure_ (i := 9) (N := some 101) (v := ?_) (a' := ?_) #[true, true, true, true, true, true, true, true, true, true, false, false] rfl rfl (any_of HT_.out (by kernel_rfl)) (fun _ _ _ h => h) (Or.inl ⟨by rfl, ?_⟩) ?_ ?_
               rotate_left
               · intro w'
                 go_simp
                 with_reducible rfl
               rotate_left
               · simp only [Act.put, qa_, qz_, qs_, i64_w, i32_w]
                 rfl
               refine pure_ (i := 10) (N := some 21) (v := ?_) (a' := ?_) #[true, true, true, true, true, true, true, true, true, true, true, false] rfl rfl (any_of HT_.out (by kernel_rfl)) (fun _ _ _ h => h) (Or.inl ⟨by rfl, ?_⟩) ?_ ?_
               rotate_left
               · intro w'
                 go_simp
                 with_reducible rfl
               rotate_left
               · simp only [Act.put, qa_, qz_, qs_, i64_w, i32_w]
                 rfl
               refine pure_ (i := 11) (N := some 22) (v := ?_) (a' := ?_) #[true, true, true, true, true, true, true, true, true, true, true, true] rfl rfl (any_of HT_.out (by kernel_rfl)) (fun _ _ _ h => h) (Or.inl ⟨by rfl, ?_⟩) ?_ ?_
               rotate_left
               · intro w'
                 go_simp
                 with_reducible rfl
               rotate_left
               · simp only [Act.put, qa_, qz_, qs_, i64_w, i32_w]
                 rfl
               refine done_ (done_of HT_.out (by kernel_rfl)) ?_
               go_upto_region 17 with (fail)
               go_cut [118] (fun v118 wc => ∃ (kq : Nat) (x118_64 : Bool), v118 = .bool x118_64 ∧ Aside0 (partitalaw05_MeterAgain.j3 kq t336 t362 x20_3 x118_64 t337 t338 t339 t343 t344 x358000_3 x358001_3 = some r) ∧ Aside0 (kq ≤ k3) ∧ Aside0 (Kd.R k26 26 wc w.heap.size (fun k_ => k_ ≠ gb346 ∧ k_ ≠ gb357 ∧ k_ ≠ gb361) (.slice (some ad366) t362.length co66) t362) ∧ Aside0 (Kd.R (Kd.int .i64) 3 wc w.heap.size (fun _ => True) (.slice Ao18 t339.length co18) t339) ∧ Aside0 (wc.heap[gb335]? = some (.cells #[.int .i64 a0_0, .int .i64 a0_1, (.slice A0_2 l0_2.length c0_2)] 24 (0, 0))) ∧ Aside0 (wc.heap[gb342]? = some (.cells #[.int .i64 t337, .int .i64 t338, (.slice Ao18 t339.length co18)] 24 (0, 0))) ∧ Aside0 (wc.heap[gb346]? = some (.cells #[.int .i64 t343, .int .i64 t344] 26 (0, 0))) ∧ Aside0 (wc.heap[gb357]? = some (.cells #[.int .i64 x358000_3, .int .i64 x358001_3] 26 (0, 0))) ∧ Aside0 (wc.heap[gb361]? = some (.cells #[.int .i64 t358, .int .i64 t359] 26 (0, 0))) ∧ Aside0 (Below w.heap.size w wc))
               case first =>
                have H := HC65.out
                clear HC65
                by_cases c69 : t370 = 0
                · rw [if_pos c69] at H
                  have c69b0 : (t370 == 0) = true := beq_iff_eq.mpr c69
                  have c69b1 : (t370 != 0) = false := bne_eq_false_iff_eq.mpr c69
                  clear c69
                  (first | rw [c69b0] | (simp only [i64_w, i32_w]; rw [c69b0]) | skip)
                  by_cases c70 : (t367.length : Int) = 1
                  · rw [if_pos c70] at H
                    have c70b0 : ((t367.length : Int) == 1) = true := beq_iff_eq.mpr c70
                    have c70b1 : ((t367.length : Int) != 1) = false := bne_eq_false_iff_eq.mpr c70
                    clear c70
                    by_cases c71 : 0 < (t367.length : Int)
                    · rw [if_pos c71] at H
                      have c71b0 : decide (0 < (t367.length : Int)) = true := decide_eq_true c71
                      have c71b1 : decide (0 < t367.length) = true := decide_eq_true (by omega)
                      clear c71
                      have H' := Aside0.mk H
                      clear H
                      try go_wp2
                      have n0_ := Aside0.mk (Kd.R_drew HO_15.out)
                      have n1_ := Aside0.mk (Kd.R_drew HO_343002.out)
                      have n2_ := Aside0.mk (Kd.R_drew HO369.out)
                      have n3_ := Aside0.mk (blk_drew BK335.out)
                      have n4_ := Aside0.mk (blk_drew BK342.out)
                      have n5_ := Aside0.mk (blk_drew BK346.out)
                      have n6_ := Aside0.mk (blk_drew BK357.out)
                      have n7_ := Aside0.mk (blk_drew BK361.out)
                      have n8_ := Aside0.mk (below_drew1 HB.out)
                      clear HO_15
                      clear HO_343002
                      clear HO369
                      clear BK335
                      clear BK342
                      clear BK346
                      clear BK357
                      clear BK361
                      clear HB
                      have HO_15 := n0_
                      have HO_343002 := n1_
                      have HO369 := n2_
                      have BK335 := n3_
                      have BK342 := n4_
                      have BK346 := n5_
                      have BK357 := n6_
                      have BK361 := n7_
                      have HB := n8_
                      clear n0_ n1_ n2_ n3_ n4_ n5_ n6_ n7_ n8_
                      obtain ⟨Ao73, co73, eo73⟩ := Kd.R_slice HO369.out
                      (first | subst eo73 | (injection eo73 with f1_ f2_ f3_; have f4_ := f1_.symm; have f5_ := f3_.symm; clear f1_ f2_ f3_; subst f4_; subst f5_))
                      have p371 : 0 ≤ (0 : Int) := (by omega)
                      have q371 : 0 < (t367.length : Int) := of_decide_eq_true (by first | (with_reducible assumption) | assumption)
                      obtain ⟨ad371, e371, hx371_0, hx371_1⟩ := at_T26 (Kd.R_reads' HO369.out).2.2 0 p371 q371
                      cases e371
                      have qi371 : (0 < t367.length) = True := eq_true (by omega)
                      (try rw [show ((0 : Int)).toNat = 0 from rfl] at hx371_0)
                      (try rw [show 0 * 2 = 0 from rfl] at hx371_0)
                      (try rw [Addr.add_zero'] at hx371_0)
                      (try rw [show ((0 : Int)).toNat = 0 from rfl] at hx371_1)
                      (try rw [show 0 * 2 = 0 from rfl] at hx371_1)
                      (try rw [Addr.add_zero'] at hx371_1)
                      replace p371 := eq_true p371
                      replace q371 := eq_true q371
                      have p372 : 0 ≤ (x20_3 : Int) := of_decide_eq_true (by first | (with_reducible assumption) | assumption)
                      have q372 : x20_3 < (t362.length : Int) := of_decide_eq_true (by first | (with_reducible assumption) | assumption)
                      obtain ⟨ad372, e372, hx372_0, hx372_1⟩ := at_T26 (Kd.R_reads' HO_15.out).2.2 x20_3 p372 q372
                      obtain rfl : ad366 = ad372 := (by injection e372)
                      replace p372 := eq_true p372
                      replace q372 := eq_true q372
                      refine start_ (n := 17) (S := fun w' => w'.cell? ad371 = some (.int .i64 ((rd_T26 t367 0).f0)) ∧ w'.cell? ⟨ad371.block, ad371.off + 1, none⟩ = some (.int .i64 ((rd_T26 t367 0).f1)) ∧ w'.cell? (ad366.add ((x20_3).toNat * 2)) = some (.int .i64 ((rd_T26 t362 x20_3).f0)) ∧ w'.cell? ⟨(ad366.add ((x20_3).toNat * 2)).block, (ad366.add ((x20_3).toNat * 2)).off + 1, none⟩ = some (.int .i64 ((rd_T26 t362 x20_3).f1))) (ds := []) #[false, false, false, false, false, false, false, false, false, false, false, false, false, false, false, false, false] (by kernel_rfl) rfl rfl ⟨hx371_0, hx371_1, hx372_0, hx372_1⟩ (fun hHeld => ?_); refine with_tabW partitalaw05_MeterAgain.tab17 partitalaw05_MeterAgain.bits17 (fun HT_ HW_ => ?_)
                      generalize w68.drew = w72 at HO_15 HO_343002 HO369 BK335 BK342 BK346 BK357 BK361 HB hx371_0 hx371_1 hx372_0 hx372_1 hHeld ⊢
                      refine pure_ (i := 0) (N := some 102) (v := ?_) (a' := ?_) #[true, false, false, false, false, false, false, false, false, false, false, false, false, false, false, false, false] rfl rfl (any_of HT_.out (by kernel_rfl)) (fun _ _ _ h => h) (Or.inl ⟨by rfl, ?_⟩) ?_ ?_
                      rotate_left
                      · intro w'
                        go_simp
                        with_reducible rfl
                      rotate_left
                      · simp only [Act.put, qa_, qz_, qs_, i64_w, i32_w]
                        rfl
                      refine pure_ (i := 1) (N := some 103) (v := ?_) (a' := ?_) #[true, true, false, false, false, false, false, false, false, false, false, false, false, false, false, false, false] rfl rfl (any_of HT_.out (by kernel_rfl)) (fun _ _ _ h => h) (Or.inl ⟨by rfl, ?_⟩) ?_ ?_
                      rotate_left
                      · intro w'
                        go_simp
                        with_reducible rfl
                      rotate_left
                      · simp only [Act.put, qa_, qz_, qs_, i64_w, i32_w]
                        rfl
                      refine pure_ (i := 2) (N := some 104) (v := ?_) (a' := ?_) #[true, true, true, false, false, false, false, false, false, false, false, false, false, false, false, false, false] rfl rfl (any_of HT_.out (by kernel_rfl)) (fun _ _ _ h => h) (Or.inl ⟨by rfl, ?_⟩) ?_ ?_
                      rotate_left
                      · intro w'
                        go_simp
                        with_reducible rfl
                      rotate_left
                      · simp only [Act.put, qa_, qz_, qs_, i64_w, i32_w]
                        rfl
                      refine pure_ (i := 3) (N := some 105) (v := ?_) (a' := ?_) #[true, true, true, true, false, false, false, false, false, false, false, false, false, false, false, false, false] rfl rfl (any_of HT_.out (by kernel_rfl)) (fun _ _ _ h => h) (Or.inl ⟨by rfl, ?_⟩) ?_ ?_
                      rotate_left
                      · intro w'
                        go_simp
                        with_reducible rfl
                      rotate_left
                      · simp only [Act.put, qa_, qz_, qs_, i64_w, i32_w]
                        rfl
                      refine pure_ (i := 4) (N := some 106) (v := ?_) (a' := ?_) #[true, true, true, true, true, false, false, false, false, false, false, false, false, false, false, false, false] rfl rfl (any_of HT_.out (by kernel_rfl)) (fun _ _ _ h => h) (Or.inl ⟨by rfl, ?_⟩) ?_ ?_
                      rotate_left
                      · intro w'
                        go_simp
                        with_reducible rfl
                      rotate_left
                      · simp only [Act.put, qa_, qz_, qs_, i64_w, i32_w]
                        rfl
                      refine pure_ (i := 5) (N := some 107) (v := ?_) (a' := ?_) #[true, true, true, true, true, true, false, false, false, false, false, false, false, false, false, false, false] rfl rfl (any_of HT_.out (by kernel_rfl)) (fun _ _ _ h => h) (Or.inl ⟨by rfl, ?_⟩) ?_ ?_
                      rotate_left
                      · intro w'
                        go_simp
                        with_reducible rfl
                      rotate_left
                      · simp only [Act.put, qa_, qz_, qs_, i64_w, i32_w]
                        rfl
                      refine pure_ (i := 6) (N := some 108) (v := ?_) (a' := ?_) #[true, true, true, true, true, true, true, false, false, false, false, false, false, false, false, false, false] rfl rfl (any_of HT_.out (by kernel_rfl)) (fun _ _ _ h => h) (Or.inl ⟨by rfl, ?_⟩) ?_ ?_
                      rotate_left
                      · intro w'
                        go_simp
                        with_reducible rfl
                      rotate_left
                      · simp only [Act.put, qa_, qz_, qs_, i64_w, i32_w]
                        rfl
                      refine pure_ (i := 7) (N := some 109) (v := ?_) (a' := ?_) #[true, true, true, true, true, true, true, true, false, false, false, false, false, false, false, false, false] rfl rfl (any_of HT_.out (by kernel_rfl)) (fun _ _ _ h => h) (Or.inl ⟨by rfl, ?_⟩) ?_ ?_
                      rotate_left
                      · intro w'
                        go_simp
                        with_reducible rfl
                      rotate_left
                      · simp only [Act.put, qa_, qz_, qs_, i64_w, i32_w]
                        rfl
                      refine pure_ (i := 8) (N := some 110) (v := ?_) (a' := ?_) #[true, true, true, true, true, true, true, true, true, false, false, false, false, false, false, false, false] rfl rfl (any_of HT_.out (by kernel_rfl)) (fun _ _ _ h => h) (Or.inl ⟨by rfl, ?_⟩) ?_ ?_
                      rotate_left
                      · intro w'
                        go_simp
                        with_reducible rfl
                      rotate_left
                      · simp only [Act.put, qa_, qz_, qs_, i64_w, i32_w]
                        rfl
                      refine pure_ (i := 9) (N := some 111) (v := ?_) (a' := ?_) #[true, true, true, true, true, true, true, true, true, true, false, false, false, false, false, false, false] rfl rfl (any_of HT_.out (by kernel_rfl)) (fun _ _ _ h => h) (Or.inl ⟨by rfl, ?_⟩) ?_ ?_
                      rotate_left
                      · intro w'
                        go_simp
                        with_reducible rfl
                      rotate_left
                      · simp only [Act.put, qa_, qz_, qs_, i64_w, i32_w]
                        rfl
                      refine pure_ (i := 11) (N := some 113) (v := ?_) (a' := ?_) #[true, true, true, true, true, true, true, true, true, true, false, true, false, false, false, false, false] rfl rfl (any_of HT_.out (by kernel_rfl)) (fun _ _ _ h => h) (Or.inl ⟨by rfl, ?_⟩) ?_ ?_
                      rotate_left
                      · intro w'
                        go_simp
                        with_reducible rfl
                      rotate_left
                      · simp only [Act.put, qa_, qz_, qs_, i64_w, i32_w]
                        rfl
                      refine pure_ (i := 12) (N := some 114) (v := ?_) (a' := ?_) #[true, true, true, true, true, true, true, true, true, true, false, true, true, false, false, false, false] rfl rfl (any_of HT_.out (by kernel_rfl)) (fun _ _ _ h => h) (Or.inl ⟨by rfl, ?_⟩) ?_ ?_
                      rotate_left
                      · intro w'
                        go_simp
                        with_reducible rfl
                      rotate_left
                      · simp only [Act.put, qa_, qz_, qs_, i64_w, i32_w]
                        rfl
                      refine pure_ (i := 13) (N := some 115) (v := ?_) (a' := ?_) #[true, true, true, true, true, true, true, true, true, true, false, true, true, true, false, false, false] rfl rfl (any_of HT_.out (by kernel_rfl)) (fun _ _ _ h => h) (Or.inl ⟨by rfl, ?_⟩) ?_ ?_
                      rotate_left
                      · intro w'
                        go_simp
                        with_reducible rfl
                      rotate_left
                      · simp only [Act.put, qa_, qz_, qs_, i64_w, i32_w]
                        rfl
                      refine take_ (i := 10) (N := some 112) (v := ?_) (a' := ?_) #[true, true, true, true, true, true, true, true, true, true, true, true, true, true, false, false, false] rfl rfl (take_ofW HT_.out HW_.out (by kernel_rfl)) (fun _ _ _ h => h) (Or.inl ⟨by rfl, ?_⟩) hHeld ?_ ?_
                      rotate_left
                      · rintro w' ⟨s0, s1, s2, s3⟩
                        go_simp
                        with_reducible rfl
                      rotate_left
                      · simp only [Act.put, qa_, qz_, qs_, i64_w, i32_w]
                        rfl
                      refine take_ (i := 14) (N := some 116) (v := ?_) (a' := ?_) #[true, true, true, true, true, true, true, true, true, true, true, true, true, true, true, false, false] rfl rfl (take_ofW HT_.out HW_.out (by kernel_rfl)) (fun _ _ _ h => h) (Or.inl ⟨by rfl, ?_⟩) hHeld ?_ ?_
                      rotate_left
                      · rintro w' ⟨s0, s1, s2, s3⟩
                        go_simp
                        with_reducible rfl
                      rotate_left
                      · simp only [Act.put, qa_, qz_, qs_, i64_w, i32_w]
                        rfl
                      refine pure_ (i := 15) (N := some 117) (v := ?_) (a' := ?_) #[true, true, true, true, true, true, true, true, true, true, true, true, true, true, true, true, false] rfl rfl (any_of HT_.out (by kernel_rfl)) (fun _ _ _ h => h) (Or.inl ⟨by rfl, ?_⟩) ?_ ?_
                      rotate_left
                      · intro w'
                        go_simp
                        with_reducible rfl
                      rotate_left
                      · simp only [Act.put, qa_, qz_, qs_, i64_w, i32_w]
                        rfl
                      refine pure_ (i := 16) (N := some 118) (v := ?_) (a' := ?_) #[true, true, true, true, true, true, true, true, true, true, true, true, true, true, true, true, true] rfl rfl (any_of HT_.out (by kernel_rfl)) (fun _ _ _ h => h) (Or.inl ⟨by rfl, ?_⟩) ?_ ?_
                      rotate_left
                      · intro w'
                        go_simp
                        with_reducible rfl
                      rotate_left
                      · simp only [Act.put, qa_, qz_, qs_, i64_w, i32_w]
                        rfl
                      refine done_ (done_of HT_.out (by kernel_rfl)) ?_
                      try go_wp2
                      go_meet
                      case rel => exact ⟨_, ((!(((rd_T26 t367 0).f0) == ((rd_T26 t362 x20_3).f0)) || (!(((rd_T26 t367 0).f1) == ((rd_T26 t362 x20_3).f1))))), (by first | rfl | (simp; done) | (simp [*]; done)), H', ⟨by have := HJ9.out; have := HJ37.out; have := HK3.out; first | omega | exact Nat.le_refl _⟩, ⟨by (with_reducible repeat (first | apply Kd.R_alloc | apply Kd.R_drewN | apply Kd.R_drew)); exact Kd.R_mono HO_15.out (fun _ hk => ⟨hk.1.1, ⟨hk.1.2.1, hk.1.2.2⟩⟩)⟩, ⟨by (with_reducible repeat (first | apply Kd.R_alloc | apply Kd.R_drewN | apply Kd.R_drew)); exact HO_343002.out⟩, ⟨by (with_reducible repeat (first | refine blk_drewN ?_ _ | refine blk_drew ?_ | refine blk_alloc ?_ _)); exact BK335.out⟩, ⟨by (with_reducible repeat (first | refine blk_drewN ?_ _ | refine blk_drew ?_ | refine blk_alloc ?_ _)); exact BK342.out⟩, ⟨by (with_reducible repeat (first | refine blk_drewN ?_ _ | refine blk_drew ?_ | refine blk_alloc ?_ _)); exact BK346.out⟩, ⟨by (with_reducible repeat (first | refine blk_drewN ?_ _ | refine blk_drew ?_ | refine blk_alloc ?_ _)); exact BK357.out⟩, ⟨by (with_reducible repeat (first | refine blk_drewN ?_ _ | refine blk_drew ?_ | refine blk_alloc ?_ _)); exact BK361.out⟩, ⟨by repeat (first | (with_reducible first | exact HB.out | apply below_alloc | apply pw_below_drewN | apply below_drew1 | refine below_set ?_ (Aside0.out (by assumption))) | exact HB.out)⟩⟩
                    · rw [if_neg c71] at H
                      exact absurd H (by simp)
                  · rw [if_neg c70] at H
                    have c70b0 : ((t367.length : Int) == 1) = false := beq_eq_false_iff_ne.mpr c70
                    have c70b1 : ((t367.length : Int) != 1) = true := bne_iff_ne.mpr c70
                    have H' := Aside0.mk H
                    clear H
                    try go_wp2
                    have n0_ := Aside0.mk (Kd.R_drew HO_15.out)
                    have n1_ := Aside0.mk (Kd.R_drew HO_343002.out)
                    have n2_ := Aside0.mk (Kd.R_drew HO369.out)
                    have n3_ := Aside0.mk (blk_drew BK335.out)
                    have n4_ := Aside0.mk (blk_drew BK342.out)
                    have n5_ := Aside0.mk (blk_drew BK346.out)
                    have n6_ := Aside0.mk (blk_drew BK357.out)
                    have n7_ := Aside0.mk (blk_drew BK361.out)
                    have n8_ := Aside0.mk (below_drew1 HB.out)
                    clear HO_15
                    clear HO_343002
                    clear HO369
                    clear BK335
                    clear BK342
                    clear BK346
                    clear BK357
                    clear BK361
                    clear HB
                    have HO_15 := n0_
                    have HO_343002 := n1_
                    have HO369 := n2_
                    have BK335 := n3_
                    have BK342 := n4_
                    have BK346 := n5_
                    have BK357 := n6_
                    have BK361 := n7_
                    have HB := n8_
                    clear n0_ n1_ n2_ n3_ n4_ n5_ n6_ n7_ n8_
                    obtain ⟨Ao75, co75, eo75⟩ := Kd.R_slice HO369.out
                    (first | subst eo75 | (injection eo75 with f1_ f2_ f3_; have f4_ := f1_.symm; have f5_ := f3_.symm; clear f1_ f2_ f3_; subst f4_; subst f5_))
                    refine start_ (n := 17) (S := fun w' => True) (ds := []) #[false, false, false, false, false, false, false, false, false, false, false, false, false, false, false, false, false] (by kernel_rfl) rfl rfl trivial (fun hHeld => ?_); refine with_tabW partitalaw05_MeterAgain.tab17 partitalaw05_MeterAgain.bits17 (fun HT_ HW_ => ?_)
                    generalize w68.drew = w74 at HO_15 HO_343002 HO369 BK335 BK342 BK346 BK357 BK361 HB hHeld ⊢
                    refine pure_ (i := 0) (N := some 102) (v := ?_) (a' := ?_) #[true, false, false, false, false, false, false, false, false, false, false, false, false, false, false, false, false] rfl rfl (any_of HT_.out (by kernel_rfl)) (fun _ _ _ h => h) (Or.inl ⟨by rfl, ?_⟩) ?_ ?_
                    rotate_left
                    · intro w'
                      go_simp
                      with_reducible rfl
                    rotate_left
                    · simp only [Act.put, qa_, qz_, qs_, i64_w, i32_w]
                      rfl
                    refine pure_ (i := 1) (N := some 103) (v := ?_) (a' := ?_) #[true, true, false, false, false, false, false, false, false, false, false, false, false, false, false, false, false] rfl rfl (any_of HT_.out (by kernel_rfl)) (fun _ _ _ h => h) (Or.inl ⟨by rfl, ?_⟩) ?_ ?_
                    rotate_left
                    · intro w'
                      go_simp
                      with_reducible rfl
                    rotate_left
                    · simp only [Act.put, qa_, qz_, qs_, i64_w, i32_w]
                      rfl
                    refine pure_ (i := 2) (N := some 104) (v := ?_) (a' := ?_) #[true, true, true, false, false, false, false, false, false, false, false, false, false, false, false, false, false] rfl rfl (any_of HT_.out (by kernel_rfl)) (fun _ _ _ h => h) (Or.inl ⟨by rfl, ?_⟩) ?_ ?_
                    rotate_left
                    · intro w'
                      go_simp
                      with_reducible rfl
                    rotate_left
                    · simp only [Act.put, qa_, qz_, qs_, i64_w, i32_w]
                      rfl
                    refine pure_ (i := 3) (N := some 105) (v := ?_) (a' := ?_) #[true, true, true, true, false, false, false, false, false, false, false, false, false, false, false, false, false] rfl rfl (any_of HT_.out (by kernel_rfl)) (fun _ _ _ h => h) (Or.inl ⟨by rfl, ?_⟩) ?_ ?_
                    rotate_left
                    · intro w'
                      go_simp
                      with_reducible rfl
                    rotate_left
                    · simp only [Act.put, qa_, qz_, qs_, i64_w, i32_w]
                      rfl
                    refine pure_ (i := 4) (N := some 106) (v := ?_) (a' := ?_) #[true, true, true, true, true, false, false, false, false, false, false, false, false, false, false, false, false] rfl rfl (any_of HT_.out (by kernel_rfl)) (fun _ _ _ h => h) (Or.inl ⟨by rfl, ?_⟩) ?_ ?_
                    rotate_left
                    · intro w'
                      go_simp
                      with_reducible rfl
                    rotate_left
                    · simp only [Act.put, qa_, qz_, qs_, i64_w, i32_w]
                      rfl
                    refine pure_ (i := 5) (N := some 107) (v := ?_) (a' := ?_) #[true, true, true, true, true, true, false, false, false, false, false, false, false, false, false, false, false] rfl rfl (any_of HT_.out (by kernel_rfl)) (fun _ _ _ h => h) (Or.inl ⟨by rfl, ?_⟩) ?_ ?_
                    rotate_left
                    · intro w'
                      go_simp
                      with_reducible rfl
                    rotate_left
                    · simp only [Act.put, qa_, qz_, qs_, i64_w, i32_w]
                      rfl
                    refine pure_ (i := 6) (N := some 108) (v := ?_) (a' := ?_) #[true, true, true, true, true, true, true, false, false, false, false, false, false, false, false, false, false] rfl rfl (any_of HT_.out (by kernel_rfl)) (fun _ _ _ h => h) (Or.inl ⟨by rfl, ?_⟩) ?_ ?_
                    rotate_left
                    · intro w'
                      go_simp
                      with_reducible rfl
                    rotate_left
                    · simp only [Act.put, qa_, qz_, qs_, i64_w, i32_w]
                      rfl
                    refine pure_ (i := 7) (N := some 109) (v := ?_) (a' := ?_) #[true, true, true, true, true, true, true, true, false, false, false, false, false, false, false, false, false] rfl rfl (any_of HT_.out (by kernel_rfl)) (fun _ _ _ h => h) (Or.inl ⟨by rfl, ?_⟩) ?_ ?_
                    rotate_left
                    · intro w'
                      go_simp
                      with_reducible rfl
                    rotate_left
                    · simp only [Act.put, qa_, qz_, qs_, i64_w, i32_w]
                      rfl
                    refine pure_ (i := 8) (N := some 110) (v := undef) (a' := ?_) #[true, true, true, true, true, true, true, true, true, false, false, false, false, false, false, false, false] rfl rfl (any_of HT_.out (by kernel_rfl)) (fun _ _ _ h => h) (Or.inr ⟨by rfl, rfl⟩) ?_ ?_
                    rotate_left
                    · simp only [Act.put, qa_, qz_, qs_, i64_w, i32_w]
                      rfl
                    refine pure_ (i := 9) (N := some 111) (v := undef) (a' := ?_) #[true, true, true, true, true, true, true, true, true, true, false, false, false, false, false, false, false] rfl rfl (any_of HT_.out (by kernel_rfl)) (fun _ _ _ h => h) (Or.inr ⟨by rfl, rfl⟩) ?_ ?_
                    rotate_left
                    · simp only [Act.put, qa_, qz_, qs_, i64_w, i32_w]
                      rfl
                    refine pure_ (i := 10) (N := some 112) (v := undef) (a' := ?_) #[true, true, true, true, true, true, true, true, true, true, true, false, false, false, false, false, false] rfl rfl (any_of HT_.out (by kernel_rfl)) (fun _ _ _ h => h) (Or.inr ⟨by rfl, rfl⟩) ?_ ?_
                    rotate_left
                    · simp only [Act.put, qa_, qz_, qs_, i64_w, i32_w]
                      rfl
                    refine pure_ (i := 11) (N := some 113) (v := undef) (a' := ?_) #[true, true, true, true, true, true, true, true, true, true, true, true, false, false, false, false, false] rfl rfl (any_of HT_.out (by kernel_rfl)) (fun _ _ _ h => h) (Or.inr ⟨by rfl, rfl⟩) ?_ ?_
                    rotate_left
                    · simp only [Act.put, qa_, qz_, qs_, i64_w, i32_w]
                      rfl
                    refine pure_ (i := 12) (N := some 114) (v := undef) (a' := ?_) #[true, true, true, true, true, true, true, true, true, true, true, true, true, false, false, false, false] rfl rfl (any_of HT_.out (by kernel_rfl)) (fun _ _ _ h => h) (Or.inr ⟨by rfl, rfl⟩) ?_ ?_
                    rotate_left
                    · simp only [Act.put, qa_, qz_, qs_, i64_w, i32_w]
                      rfl
                    refine pure_ (i := 13) (N := some 115) (v := undef) (a' := ?_) #[true, true, true, true, true, true, true, true, true, true, true, true, true, true, false, false, false] rfl rfl (any_of HT_.out (by kernel_rfl)) (fun _ _ _ h => h) (Or.inr ⟨by rfl, rfl⟩) ?_ ?_
                    rotate_left
                    · simp only [Act.put, qa_, qz_, qs_, i64_w, i32_w]
                      rfl
                    refine pure_ (i := 14) (N := some 116) (v := undef) (a' := ?_) #[true, true, true, true, true, true, true, true, true, true, true, true, true, true, true, false, false] rfl rfl (any_of HT_.out (by kernel_rfl)) (fun _ _ _ h => h) (Or.inr ⟨by rfl, rfl⟩) ?_ ?_
                    rotate_left
                    · simp only [Act.put, qa_, qz_, qs_, i64_w, i32_w]
                      rfl
                    refine pure_ (i := 15) (N := some 117) (v := undef) (a' := ?_) #[true, true, true, true, true, true, true, true, true, true, true, true, true, true, true, true, false] rfl rfl (any_of HT_.out (by kernel_rfl)) (fun _ _ _ h => h) (Or.inr ⟨by rfl, rfl⟩) ?_ ?_
                    rotate_left
                    · simp only [Act.put, qa_, qz_, qs_, i64_w, i32_w]
                      rfl
                    refine pure_ (i := 16) (N := some 118) (v := ?_) (a' := ?_) #[true, true, true, true, true, true, true, true, true, true, true, true, true, true, true, true, true] rfl rfl (any_of HT_.out (by kernel_rfl)) (fun _ _ _ h => h) (Or.inl ⟨by rfl, ?_⟩) ?_ ?_
                    rotate_left
                    · intro w'
                      go_simp
                      with_reducible rfl
                    rotate_left
                    · simp only [Act.put, qa_, qz_, qs_, i64_w, i32_w]
                      rfl
                    refine done_ (done_of HT_.out (by kernel_rfl)) ?_
                    try go_wp2
                    go_meet
                    case rel => exact ⟨_, (true), (by first | rfl | (simp; done) | (simp [*]; done)), H', ⟨by have := HJ9.out; have := HJ37.out; have := HK3.out; first | omega | exact Nat.le_refl _⟩, ⟨by (with_reducible repeat (first | apply Kd.R_alloc | apply Kd.R_drewN | apply Kd.R_drew)); exact Kd.R_mono HO_15.out (fun _ hk => ⟨hk.1.1, ⟨hk.1.2.1, hk.1.2.2⟩⟩)⟩, ⟨by (with_reducible repeat (first | apply Kd.R_alloc | apply Kd.R_drewN | apply Kd.R_drew)); exact HO_343002.out⟩, ⟨by (with_reducible repeat (first | refine blk_drewN ?_ _ | refine blk_drew ?_ | refine blk_alloc ?_ _)); exact BK335.out⟩, ⟨by (with_reducible repeat (first | refine blk_drewN ?_ _ | refine blk_drew ?_ | refine blk_alloc ?_ _)); exact BK342.out⟩, ⟨by (with_reducible repeat (first | refine blk_drewN ?_ _ | refine blk_drew ?_ | refine blk_alloc ?_ _)); exact BK346.out⟩, ⟨by (with_reducible repeat (first | refine blk_drewN ?_ _ | refine blk_drew ?_ | refine blk_alloc ?_ _)); exact BK357.out⟩, ⟨by (with_reducible repeat (first | refine blk_drewN ?_ _ | refine blk_drew ?_ | refine blk_alloc ?_ _)); exact BK361.out⟩, ⟨by repeat (first | (with_reducible first | exact HB.out | apply below_alloc | apply pw_below_drewN | apply below_drew1 | refine below_set ?_ (Aside0.out (by assumption))) | exact HB.out)⟩⟩
                · rw [if_neg c69] at H
                  have c69b0 : (t370 == 0) = false := beq_eq_false_iff_ne.mpr c69
                  have c69b1 : (t370 != 0) = true := bne_iff_ne.mpr c69
                  (first | rw [c69b0] | (simp only [i64_w, i32_w]; rw [c69b0]) | skip)
                  have H' := Aside0.mk H
                  clear H
                  try go_wp2
                  have n0_ := Aside0.mk (Kd.R_drew HO_15.out)
                  have n1_ := Aside0.mk (Kd.R_drew HO_343002.out)
                  have n2_ := Aside0.mk (Kd.R_drew HO369.out)
                  have n3_ := Aside0.mk (blk_drew BK335.out)
                  have n4_ := Aside0.mk (blk_drew BK342.out)
                  have n5_ := Aside0.mk (blk_drew BK346.out)
                  have n6_ := Aside0.mk (blk_drew BK357.out)
                  have n7_ := Aside0.mk (blk_drew BK361.out)
                  have n8_ := Aside0.mk (below_drew1 HB.out)
                  clear HO_15
                  clear HO_343002
                  clear HO369
                  clear BK335
                  clear BK342
                  clear BK346
                  clear BK357
                  clear BK361
                  clear HB
                  have HO_15 := n0_
                  have HO_343002 := n1_
                  have HO369 := n2_
                  have BK335 := n3_
                  have BK342 := n4_
                  have BK346 := n5_
                  have BK357 := n6_
                  have BK361 := n7_
                  have HB := n8_
                  clear n0_ n1_ n2_ n3_ n4_ n5_ n6_ n7_ n8_
                  refine start_ (n := 17) (S := fun w' => True) (ds := []) #[false, false, false, false, false, false, false, false, false, false, false, false, false, false, false, false, false] (by kernel_rfl) rfl rfl trivial (fun hHeld => ?_); refine with_tabW partitalaw05_MeterAgain.tab17 partitalaw05_MeterAgain.bits17 (fun HT_ HW_ => ?_)
                  generalize w68.drew = w76 at HO_15 HO_343002 HO369 BK335 BK342 BK346 BK357 BK361 HB hHeld ⊢
                  refine pure_ (i := 0) (N := some 102) (v := ?_) (a' := ?_) #[true, false, false, false, false, false, false, false, false, false, false, false, false, false, false, false, false] rfl rfl (any_of HT_.out (by kernel_rfl)) (fun _ _ _ h => h) (Or.inl ⟨by rfl, ?_⟩) ?_ ?_
                  rotate_left
                  · intro w'
                    go_simp
                    with_reducible rfl
                  rotate_left
                  · simp only [Act.put, qa_, qz_, qs_, i64_w, i32_w]
                    rfl
                  refine pure_ (i := 1) (N := some 103) (v := ?_) (a' := ?_) #[true, true, false, false, false, false, false, false, false, false, false, false, false, false, false, false, false] rfl rfl (any_of HT_.out (by kernel_rfl)) (fun _ _ _ h => h) (Or.inl ⟨by rfl, ?_⟩) ?_ ?_
                  rotate_left
                  · intro w'
                    go_simp
                    with_reducible rfl
                  rotate_left
                  · simp only [Act.put, qa_, qz_, qs_, i64_w, i32_w]
                    rfl
                  refine pure_ (i := 2) (N := some 104) (v := ?_) (a' := ?_) #[true, true, true, false, false, false, false, false, false, false, false, false, false, false, false, false, false] rfl rfl (any_of HT_.out (by kernel_rfl)) (fun _ _ _ h => h) (Or.inl ⟨by rfl, ?_⟩) ?_ ?_
                  rotate_left
                  · intro w'
                    go_simp
                    with_reducible rfl
                  rotate_left
                  · simp only [Act.put, qa_, qz_, qs_, i64_w, i32_w]
                    rfl
                  refine pure_ (i := 3) (N := some 105) (v := undef) (a' := ?_) #[true, true, true, true, false, false, false, false, false, false, false, false, false, false, false, false, false] rfl rfl (any_of HT_.out (by kernel_rfl)) (fun _ _ _ h => h) (Or.inr ⟨by rfl, rfl⟩) ?_ ?_
                  rotate_left
                  · simp only [Act.put, qa_, qz_, qs_, i64_w, i32_w]
                    rfl
                  refine pure_ (i := 4) (N := some 106) (v := undef) (a' := ?_) #[true, true, true, true, true, false, false, false, false, false, false, false, false, false, false, false, false] rfl rfl (any_of HT_.out (by kernel_rfl)) (fun _ _ _ h => h) (Or.inr ⟨by rfl, rfl⟩) ?_ ?_
                  rotate_left
                  · simp only [Act.put, qa_, qz_, qs_, i64_w, i32_w]
                    rfl
                  refine pure_ (i := 5) (N := some 107) (v := undef) (a' := ?_) #[true, true, true, true, true, true, false, false, false, false, false, false, false, false, false, false, false] rfl rfl (any_of HT_.out (by kernel_rfl)) (fun _ _ _ h => h) (Or.inr ⟨by rfl, rfl⟩) ?_ ?_
                  rotate_left
                  · simp only [Act.put, qa_, qz_, qs_, i64_w, i32_w]
                    rfl
                  refine pure_ (i := 6) (N := some 108) (v := ?_) (a' := ?_) #[true, true, true, true, true, true, true, false, false, false, false, false, false, false, false, false, false] rfl rfl (any_of HT_.out (by kernel_rfl)) (fun _ _ _ h => h) (Or.inl ⟨by rfl, ?_⟩) ?_ ?_
                  rotate_left
                  · intro w'
                    go_simp
                    with_reducible rfl
                  rotate_left
                  · simp only [Act.put, qa_, qz_, qs_, i64_w, i32_w]
                    rfl
                  refine pure_ (i := 7) (N := some 109) (v := ?_) (a' := ?_) #[true, true, true, true, true, true, true, true, false, false, false, false, false, false, false, false, false] rfl rfl (any_of HT_.out (by kernel_rfl)) (fun _ _ _ h => h) (Or.inl ⟨by rfl, ?_⟩) ?_ ?_
                  rotate_left
                  · intro w'
                    go_simp
                    with_reducible rfl
                  rotate_left
                  · simp only [Act.put, qa_, qz_, qs_, i64_w, i32_w]
                    rfl
                  refine pure_ (i := 8) (N := some 110) (v := undef) (a' := ?_) #[true, true, true, true, true, true, true, true, true, false, false, false, false, false, false, false, false] rfl rfl (any_of HT_.out (by kernel_rfl)) (fun _ _ _ h => h) (Or.inr ⟨by rfl, rfl⟩) ?_ ?_
                  rotate_left
                  · simp only [Act.put, qa_, qz_, qs_, i64_w, i32_w]
                    rfl
                  refine pure_ (i := 9) (N := some 111) (v := undef) (a' := ?_) #[true, true, true, true, true, true, true, true, true, true, false, false, false, false, false, false, false] rfl rfl (any_of HT_.out (by kernel_rfl)) (fun _ _ _ h => h) (Or.inr ⟨by rfl, rfl⟩) ?_ ?_
                  rotate_left
                  · simp only [Act.put, qa_, qz_, qs_, i64_w, i32_w]
                    rfl
                  refine pure_ (i := 10) (N := some 112) (v := undef) (a' := ?_) #[true, true, true, true, true, true, true, true, true, true, true, false, false, false, false, false, false] rfl rfl (any_of HT_.out (by kernel_rfl)) (fun _ _ _ h => h) (Or.inr ⟨by rfl, rfl⟩) ?_ ?_
                  rotate_left
                  · simp only [Act.put, qa_, qz_, qs_, i64_w, i32_w]
                    rfl
                  refine pure_ (i := 11) (N := some 113) (v := undef) (a' := ?_) #[true, true, true, true, true, true, true, true, true, true, true, true, false, false, false, false, false] rfl rfl (any_of HT_.out (by kernel_rfl)) (fun _ _ _ h => h) (Or.inr ⟨by rfl, rfl⟩) ?_ ?_
                  rotate_left
                  · simp only [Act.put, qa_, qz_, qs_, i64_w, i32_w]
                    rfl
                  refine pure_ (i := 12) (N := some 114) (v := undef) (a' := ?_) #[true, true, true, true, true, true, true, true, true, true, true, true, true, false, false, false, false] rfl rfl (any_of HT_.out (by kernel_rfl)) (fun _ _ _ h => h) (Or.inr ⟨by rfl, rfl⟩) ?_ ?_
                  rotate_left
                  · simp only [Act.put, qa_, qz_, qs_, i64_w, i32_w]
                    rfl
                  refine pure_ (i := 13) (N := some 115) (v := undef) (a' := ?_) #[true, true, true, true, true, true, true, true, true, true, true, true, true, true, false, false, false] rfl rfl (any_of HT_.out (by kernel_rfl)) (fun _ _ _ h => h) (Or.inr ⟨by rfl, rfl⟩) ?_ ?_
                  rotate_left
                  · simp only [Act.put, qa_, qz_, qs_, i64_w, i32_w]
                    rfl
                  refine pure_ (i := 14) (N := some 116) (v := undef) (a' := ?_) #[true, true, true, true, true, true, true, true, true, true, true, true, true, true, true, false, false] rfl rfl (any_of HT_.out (by kernel_rfl)) (fun _ _ _ h => h) (Or.inr ⟨by rfl, rfl⟩) ?_ ?_
                  rotate_left
                  · simp only [Act.put, qa_, qz_, qs_, i64_w, i32_w]
                    rfl
                  refine pure_ (i := 15) (N := some 117) (v := undef) (a' := ?_) #[true, true, true, true, true, true, true, true, true, true, true, true, true, true, true, true, false] rfl rfl (any_of HT_.out (by kernel_rfl)) (fun _ _ _ h => h) (Or.inr ⟨by rfl, rfl⟩) ?_ ?_
                  rotate_left
                  · simp only [Act.put, qa_, qz_, qs_, i64_w, i32_w]
                    rfl
                  refine pure_ (i := 16) (N := some 118) (v := ?_) (a' := ?_) #[true, true, true, true, true, true, true, true, true, true, true, true, true, true, true, true, true] rfl rfl (any_of HT_.out (by kernel_rfl)) (fun _ _ _ h => h) (Or.inl ⟨by rfl, ?_⟩) ?_ ?_
                  rotate_left
                  · intro w'
                    go_simp
                    with_reducible rfl
                  rotate_left
                  · simp only [Act.put, qa_, qz_, qs_, i64_w, i32_w]
                    rfl
                  refine done_ (done_of HT_.out (by kernel_rfl)) ?_
                  try go_wp2
                  go_meet
                  case rel => exact ⟨_, (true), (by first | rfl | (simp; done) | (simp [*]; done)), H', ⟨by have := HJ9.out; have := HJ37.out; have := HK3.out; first | omega | exact Nat.le_refl _⟩, ⟨by (with_reducible repeat (first | apply Kd.R_alloc | apply Kd.R_drewN | apply Kd.R_drew)); exact Kd.R_mono HO_15.out (fun _ hk => ⟨hk.1.1, ⟨hk.1.2.1, hk.1.2.2⟩⟩)⟩, ⟨by (with_reducible repeat (first | apply Kd.R_alloc | apply Kd.R_drewN | apply Kd.R_drew)); exact HO_343002.out⟩, ⟨by (with_reducible repeat (first | refine blk_drewN ?_ _ | refine blk_drew ?_ | refine blk_alloc ?_ _)); exact BK335.out⟩, ⟨by (with_reducible repeat (first | refine blk_drewN ?_ _ | refine blk_drew ?_ | refine blk_alloc ?_ _)); exact BK342.out⟩, ⟨by (with_reducible repeat (first | refine blk_drewN ?_ _ | refine blk_drew ?_ | refine blk_alloc ?_ _)); exact BK346.out⟩, ⟨by (with_reducible repeat (first | refine blk_drewN ?_ _ | refine blk_drew ?_ | refine blk_alloc ?_ _)); exact BK357.out⟩, ⟨by (with_reducible repeat (first | refine blk_drewN ?_ _ | refine blk_drew ?_ | refine blk_alloc ?_ _)); exact BK361.out⟩, ⟨by repeat (first | (with_reducible first | exact HB.out | apply below_alloc | apply pw_below_drewN | apply below_drew1 | refine below_set ?_ (Aside0.out (by assumption))) | exact HB.out)⟩⟩
               case rest =>
                clear HC65
                try clear c2
                try clear p2
                try clear p3
                try clear q3
                try clear hx3
                try clear qi3
                try clear c6
                try clear c7
                try clear c24
                try clear p37
                try clear q37
                try clear hx37
                try clear qi37
                try clear c69
                try clear c69b0
                try clear c69b1
                try clear c70
                try clear c70b0
                try clear c70b1
                try clear c71
                try clear c71b0
                try clear c71b1
                try clear hx371_0
                try clear hx371_1
                try clear hx372_0
                try clear hx372_1
                try clear p371
                try clear p372
                try clear q371
                try clear q372
                obtain ⟨kq, x118_64, rfl, HA, HJ64, HO_15, HO_343002, BK335, BK342, BK346, BK357, BK361, HB⟩ := hcut
                cases kq with
                | zero => exact absurd HA.out (by simp [partitalaw05_MeterAgain.j3])
                | succ kj64 =>
                 have H := HA.out
                 clear HA
                 simp only [partitalaw05_MeterAgain.j3] at H
                 by_cases c77 : x118_64 = true
                 · subst c77
                   have H1 : none = some r := by rw [if_pos rfl] at H; exact H
                   cases H1
                 · replace c77 := Bool.eq_false_iff.mpr c77
                   subst c77
                   have H1 : (if 0 ≤ x20_3 then (if x20_3 < (t362.length : Int) then ((ratio_Add.f x358000_3 x358001_3 ((rd_T26 t362 x20_3).f0) ((rd_T26 t362 x20_3).f1)).bind fun bt374 => (if bt374.2.2 = 0 then (partitalaw05_MeterAgain.l0 kj64 t336 t362 (wrap64 (x20_3 + 1)) t337 t338 t339 t343 t344 bt374.1 bt374.2.1) else none)) else (none)) else (none)) = some r := by rw [if_neg (show ¬ (false = true) by decide)] at H; exact H
                   clear H
                   have H := H1
                   clear H1
                   by_cases c78 : 0 ≤ x20_3
                   · rw [if_pos c78] at H
                     have c78b0 : decide (0 ≤ x20_3) = true := decide_eq_true c78
                     clear c78
                     by_cases c79 : x20_3 < (t362.length : Int)
                     · rw [if_pos c79] at H
                       have c79b0 : decide (x20_3 < (t362.length : Int)) = true := decide_eq_true c79
                       clear c79
                       replace H := Option.bind_eq_some_iff.mp H
                       obtain ⟨⟨t374, t375, t376⟩, A800, H⟩ := H
                       replace H : (if t376 = 0 then (partitalaw05_MeterAgain.l0 kj64 t336 t362 (wrap64 (x20_3 + 1)) t337 t338 t339 t343 t344 t374 t375) else none) = some r := H
                       have A80 := Aside0.mk A800
                       clear A800
                       by_cases c81 : t376 = 0
                       · rw [if_pos c81] at H
                         have c81b0 : (t376 == 0) = true := beq_iff_eq.mpr c81
                         have c81b1 : (t376 != 0) = false := bne_eq_false_iff_eq.mpr c81
                         clear c81
                         have H' := Aside0.mk H
                         clear H
                         try go_wp2
                         have n0_ := Aside0.mk (Kd.R_drew HO_15.out)
                         have n1_ := Aside0.mk (Kd.R_drew HO_343002.out)
                         have n2_ := Aside0.mk (blk_drew BK335.out)
                         have n3_ := Aside0.mk (blk_drew BK342.out)
                         have n4_ := Aside0.mk (blk_drew BK346.out)
                         have n5_ := Aside0.mk (blk_drew BK357.out)
                         have n6_ := Aside0.mk (blk_drew BK361.out)
                         have n7_ := Aside0.mk (below_drew1 HB.out)
                         clear HO_15
                         clear HO_343002
                         clear BK335
                         clear BK342
                         clear BK346
                         clear BK357
                         clear BK361
                         clear HB
                         have HO_15 := n0_
                         have HO_343002 := n1_
                         have BK335 := n2_
                         have BK342 := n3_
                         have BK346 := n4_
                         have BK357 := n5_
                         have BK361 := n6_
                         have HB := n7_
                         clear n0_ n1_ n2_ n3_ n4_ n5_ n6_ n7_
                         have p373 : 0 ≤ (x20_3 : Int) := of_decide_eq_true (by first | (with_reducible assumption) | assumption)
                         have q373 : x20_3 < (t362.length : Int) := of_decide_eq_true (by first | (with_reducible assumption) | assumption)
                         obtain ⟨ad373, e373, hx373_0, hx373_1⟩ := at_T26 (Kd.R_reads' HO_15.out).2.2 x20_3 p373 q373
                         obtain rfl : ad366 = ad373 := (by injection e373)
                         replace p373 := eq_true p373
                         replace q373 := eq_true q373
                         refine start_ (n := 12) (S := fun w' => w'.cell? ⟨gb357, 0, none⟩ = some (.int .i64 x358000_3) ∧ w'.cell? ⟨gb357, 1, none⟩ = some (.int .i64 x358001_3) ∧ w'.cell? (ad366.add ((x20_3).toNat * 2)) = some (.int .i64 ((rd_T26 t362 x20_3).f0)) ∧ w'.cell? ⟨(ad366.add ((x20_3).toNat * 2)).block, (ad366.add ((x20_3).toNat * 2)).off + 1, none⟩ = some (.int .i64 ((rd_T26 t362 x20_3).f1))) (ds := []) #[false, false, false, false, false, false, false, false, false, false, false, false] (by kernel_rfl) rfl rfl ⟨(blk_cell BK357.out 0).trans rfl, (blk_cell BK357.out 1).trans rfl, hx373_0, hx373_1⟩ (fun hHeld => ?_); refine with_tabW partitalaw05_MeterAgain.tab19 partitalaw05_MeterAgain.bits19 (fun HT_ HW_ => ?_)
                         generalize wc.drew = w82 at HO_15 HO_343002 BK335 BK342 BK346 BK357 BK361 HB hx373_0 hx373_1 hHeld ⊢
                         refine pure_ (i := 1) (N := some 121) (v := ?_) (a' := ?_) #[false, true, false, false, false, false, false, false, false, false, false, false] rfl rfl (any_of HT_.out (by kernel_rfl)) (fun _ _ _ h => h) (Or.inl ⟨by rfl, ?_⟩) ?_ ?_
                         rotate_left
                         · intro w'
                           go_simp
                           with_reducible rfl
                         rotate_left
                         · simp only [Act.put, qa_, qz_, qs_, i64_w, i32_w]
                           rfl
                         refine pure_ (i := 2) (N := some 122) (v := ?_) (a' := ?_) #[false, true, true, false, false, false, false, false, false, false, false, false] rfl rfl (any_of HT_.out (by kernel_rfl)) (fun _ _ _ h => h) (Or.inl ⟨by rfl, ?_⟩) ?_ ?_
                         rotate_left
                         · intro w'
                           go_simp
                           with_reducible rfl
                         rotate_left
                         · simp only [Act.put, qa_, qz_, qs_, i64_w, i32_w]
                           rfl
                         refine pure_ (i := 3) (N := some 123) (v := ?_) (a' := ?_) #[false, true, true, true, false, false, false, false, false, false, false, false] rfl rfl (any_of HT_.out (by kernel_rfl)) (fun _ _ _ h => h) (Or.inl ⟨by rfl, ?_⟩) ?_ ?_
                         rotate_left
                         · intro w'
                           go_simp
                           with_reducible rfl
                         rotate_left
                         · simp only [Act.put, qa_, qz_, qs_, i64_w, i32_w]
                           rfl
                         refine take_ (i := 0) (N := some 120) (v := ?_) (a' := ?_) #[true, true, true, true, false, false, false, false, false, false, false, false] rfl rfl (take_ofW HT_.out HW_.out (by kernel_rfl)) (fun _ _ _ h => h) (Or.inl ⟨by rfl, ?_⟩) hHeld ?_ ?_
                         rotate_left
                         · rintro w' ⟨s0, s1, s2, s3⟩
                           go_simp
                           with_reducible rfl
                         rotate_left
                         · simp only [Act.put, qa_, qz_, qs_, i64_w, i32_w]
                           rfl
                         refine take_ (i := 4) (N := some 124) (v := ?_) (a' := ?_) #[true, true, true, true, true, false, false, false, false, false, false, false] rfl rfl (take_ofW HT_.out HW_.out (by kernel_rfl)) (fun _ _ _ h => h) (Or.inl ⟨by rfl, ?_⟩) hHeld ?_ ?_
                         rotate_left
                         · rintro w' ⟨s0, s1, s2, s3⟩
                           go_simp
                           with_reducible rfl
                         rotate_left
                         · simp only [Act.put, qa_, qz_, qs_, i64_w, i32_w]
                           rfl
                         refine join_ (σ := Nat) 2 #[true, true, true, true, true, true, true, true, true, true, false, false] (fun s_ => [(125, .tuple #[.agg #[.int .i64 t374, .int .i64 t375], .int .i64 t376]), (23, .pointer (some ⟨s_, 0, none⟩)), (119, .tuple #[.agg #[.int .i64 t374, .int .i64 t375], .int .i64 t376]), (126, .agg #[.int .i64 t374, .int .i64 t375]), (127, .int .i64 t376)]) (fun s_ w' => (w'.cell? ⟨gb357, 0, none⟩ = some (.int .i64 x358000_3) ∧ w'.cell? ⟨gb357, 1, none⟩ = some (.int .i64 x358001_3) ∧ w'.cell? (ad366.add ((x20_3).toNat * 2)) = some (.int .i64 ((rd_T26 t362 x20_3).f0)) ∧ w'.cell? ⟨(ad366.add ((x20_3).toNat * 2)).block, (ad366.add ((x20_3).toNat * 2)).off + 1, none⟩ = some (.int .i64 ((rd_T26 t362 x20_3).f1))) ∧ (Kd.R k26 26 w' w.heap.size (fun k_ => k_ ≠ gb346 ∧ k_ ≠ gb357 ∧ k_ ≠ gb361 ∧ k_ ≠ s_) (.slice (some ad366) t362.length co66) t362) ∧ (Kd.R (Kd.int .i64) 3 w' w.heap.size (fun _ => True) (.slice Ao18 t339.length co18) t339) ∧ (w'.heap[gb335]? = some (.cells #[.int .i64 a0_0, .int .i64 a0_1, .slice A0_2 l0_2.length c0_2] 24 (0, 0))) ∧ (w'.heap[gb342]? = some (.cells #[.int .i64 t337, .int .i64 t338, .slice Ao18 t339.length co18] 24 (0, 0))) ∧ (w'.heap[gb346]? = some (.cells #[.int .i64 t343, .int .i64 t344] 26 (0, 0))) ∧ (w'.heap[gb357]? = some (.cells #[.int .i64 x358000_3, .int .i64 x358001_3] 26 (0, 0))) ∧ (w'.heap[gb361]? = some (.cells #[.int .i64 t358, .int .i64 t359] 26 (0, 0))) ∧ (w'.heap[s_]? = some (.cells #[.int .i64 0, .int .i64 0] 26 (0, 0))) ∧ (w.heap.size ≤ s_) ∧ (w.heap.size ≤ s_) ∧ (gb335 ≠ s_) ∧ (s_ ≠ gb335) ∧ (gb342 ≠ s_) ∧ (s_ ≠ gb342) ∧ (gb346 ≠ s_) ∧ (s_ ≠ gb346) ∧ (gb357 ≠ s_) ∧ (s_ ≠ gb357) ∧ (gb361 ≠ s_) ∧ (s_ ≠ gb361) ∧ (Below w.heap.size w w')) ?_ ?_
                         rotate_left
                         · intro hCont
                           refine two_ (i := 5) (j := 9) (Ni := some 125) (Nj := some 23) #[true, true, true, true, true, true, false, false, false, false, false, false] #[true, true, true, true, true, false, false, false, false, true, false, false] rfl rfl rfl rfl (two_of HT_.out (by kernel_rfl)) (by decide) (by decide) (fun K hK => ?_) (fun K hK => ?_)
                           · skip
                             refine goes_ Try.func30 (by kernel_rfl) rfl #[.agg #[.int .i64 x358000_3, .int .i64 x358001_3], .agg #[.int .i64 ((rd_T26 t362 x20_3).f0), .int .i64 ((rd_T26 t362 x20_3).f1)]] (by rfl) rfl rfl (by (try simp only [List.map_toArray, List.map_cons, List.map_nil]); first | done | rfl | (simp only [List.length_drop, List.length_take]; rfl)) ?_
                             with_reducible refine (ratio_Add.calls x358000_3 x358001_3 ((rd_T26 t362 x20_3).f0) ((rd_T26 t362 x20_3).f1) t374 t375 t376 _ A80.out).mono ?_
                             rintro e w83 ⟨rfl, hb⟩
                             have HS2_ := (hb.cell (World.block_lt_of_cell? _ _ (hHeld.2.2.1))).trans (hHeld.2.2.1)
                             have HS3_ := (hb.cell (World.block_lt_of_cell? _ _ (hHeld.2.2.2))).trans (hHeld.2.2.2)
                             refine ⟨_, rfl, ?_⟩
                             have n0_ := Aside0.mk (Kd.R_below (qR HO_15.out) hb)
                             have n1_ := Aside0.mk (Kd.R_below (qR HO_343002.out) hb)
                             have n2_ := Aside0.mk (blk_below (qB BK335.out) hb)
                             have n3_ := Aside0.mk (blk_below (qB BK342.out) hb)
                             have n4_ := Aside0.mk (blk_below (qB BK346.out) hb)
                             have n5_ := Aside0.mk (blk_below (qB BK357.out) hb)
                             have n6_ := Aside0.mk (blk_below (qB BK361.out) hb)
                             have n7_ := Aside0.mk (below_step (by repeat (first | (with_reducible first | exact HB.out | apply below_alloc | apply pw_below_drewN | apply below_drew1 | refine below_set ?_ (Aside0.out (by assumption))) | exact HB.out)) hb)
                             clear HO_15
                             clear HO_343002
                             clear BK335
                             clear BK342
                             clear BK346
                             clear BK357
                             clear BK361
                             clear HB
                             have HO_15 := n0_
                             have HO_343002 := n1_
                             have BK335 := n2_
                             have BK342 := n3_
                             have BK346 := n4_
                             have BK357 := n5_
                             have BK361 := n6_
                             have HB := n7_
                             clear n0_ n1_ n2_ n3_ n4_ n5_ n6_ n7_
                             (try clear hb)
                             (try clear hb2)
                             (try clear hk)
                             (try clear hi)
                             refine hK.out _ _ ⟨(blk_cell BK357.out 0).trans rfl, (blk_cell BK357.out 1).trans rfl, HS2_, HS3_⟩ (fun hHeld => ?_)
                             clear hK K
                             refine norm_ (a' := ?_) ?_ ?_
                             rotate_left
                             · show Act.put _ (some 125) _ = _
                               simp only [Act.put, qa_, qz_, qs_, i64_w, i32_w]
                               rfl
                             refine pure_ (i := 6) (N := some 119) (v := ?_) (a' := ?_) #[true, true, true, true, true, true, true, false, false, false, false, false] rfl rfl (any_of HT_.out (by kernel_rfl)) (fun _ _ _ h => h) (Or.inl ⟨by rfl, ?_⟩) ?_ ?_
                             rotate_left
                             · intro w'
                               go_simp
                               with_reducible rfl
                             rotate_left
                             · simp only [Act.put, qa_, qz_, qs_, i64_w, i32_w]
                               rfl
                             refine pure_ (i := 7) (N := some 126) (v := ?_) (a' := ?_) #[true, true, true, true, true, true, true, true, false, false, false, false] rfl rfl (any_of HT_.out (by kernel_rfl)) (fun _ _ _ h => h) (Or.inl ⟨by rfl, ?_⟩) ?_ ?_
                             rotate_left
                             · intro w'
                               go_simp
                               with_reducible rfl
                             rotate_left
                             · simp only [Act.put, qa_, qz_, qs_, i64_w, i32_w]
                               rfl
                             refine pure_ (i := 8) (N := some 127) (v := ?_) (a' := ?_) #[true, true, true, true, true, true, true, true, true, false, false, false] rfl rfl (any_of HT_.out (by kernel_rfl)) (fun _ _ _ h => h) (Or.inl ⟨by rfl, ?_⟩) ?_ ?_
                             rotate_left
                             · intro w'
                               go_simp
                               with_reducible rfl
                             rotate_left
                             · simp only [Act.put, qa_, qz_, qs_, i64_w, i32_w]
                               rfl
                             refine one_ (i := 9) (N := some 23) #[true, true, true, true, true, true, true, true, true, true, false, false] rfl rfl (one_of HT_.out (by kernel_rfl)) (by decide) (fun K hK => ?_)
                             refine box_step ?hg (N := 23) ?hd (cs := #[.int .i64 0, .int .i64 0]) (t := 26) ?hr ?_; (case hd => rfl); (case hg => rfl); (case hr => first | (go_simp; done) | (go_simp; rfl))
                             intro gb377 hg w84 hbox hb
                             have HS2_ := (hb.cell (World.block_lt_of_cell? _ _ (hHeld.2.2.1))).trans (hHeld.2.2.1)
                             have HS3_ := (hb.cell (World.block_lt_of_cell? _ _ (hHeld.2.2.2))).trans (hHeld.2.2.2)
                             have n0_ := Aside0.mk (Kd.R_below (Kd.R_elderB (qR HO_15.out) gb377 (Nat.le_of_eq hg.symm)) hb)
                             have n1_ := Aside0.mk (Kd.R_below (qR HO_343002.out) hb)
                             have n2_ := Aside0.mk (blk_below (qB BK335.out) hb)
                             have n3_ := Aside0.mk (blk_below (qB BK342.out) hb)
                             have n4_ := Aside0.mk (blk_below (qB BK346.out) hb)
                             have n5_ := Aside0.mk (blk_below (qB BK357.out) hb)
                             have n6_ := Aside0.mk (blk_below (qB BK361.out) hb)
                             have n7_ := Aside0.mk (below_step (by repeat (first | (with_reducible first | exact HB.out | apply below_alloc | apply pw_below_drewN | apply below_drew1 | refine below_set ?_ (Aside0.out (by assumption))) | exact HB.out)) hb)
                             have n8_ := Aside0.mk (hbox)
                             have n9_ := Aside0.mk ((by rw [hg]; exact (below_size (by repeat (first | (with_reducible first | exact HB.out | apply below_alloc | apply pw_below_drewN | apply below_drew1 | refine below_set ?_ (Aside0.out (by assumption))) | exact HB.out))) : w.heap.size ≤ gb377))
                             have n10_ := Aside0.mk ((by rw [hg]; exact (below_size (by repeat (first | (with_reducible first | exact HB.out | apply below_alloc | apply pw_below_drewN | apply below_drew1 | refine below_set ?_ (Aside0.out (by assumption))) | exact HB.out))) : w.heap.size ≤ gb377))
                             have n11_ := Aside0.mk ((by rw [hg]; exact Nat.ne_of_lt (blk_lt (qB BK335.out)) : gb335 ≠ gb377))
                             have n12_ := Aside0.mk ((by rw [hg]; exact Nat.ne_of_gt (blk_lt (qB BK335.out)) : gb377 ≠ gb335))
                             have n13_ := Aside0.mk ((by rw [hg]; exact Nat.ne_of_lt (blk_lt (qB BK342.out)) : gb342 ≠ gb377))
                             have n14_ := Aside0.mk ((by rw [hg]; exact Nat.ne_of_gt (blk_lt (qB BK342.out)) : gb377 ≠ gb342))
                             have n15_ := Aside0.mk ((by rw [hg]; exact Nat.ne_of_lt (blk_lt (qB BK346.out)) : gb346 ≠ gb377))
                             have n16_ := Aside0.mk ((by rw [hg]; exact Nat.ne_of_gt (blk_lt (qB BK346.out)) : gb377 ≠ gb346))
                             have n17_ := Aside0.mk ((by rw [hg]; exact Nat.ne_of_lt (blk_lt (qB BK357.out)) : gb357 ≠ gb377))
                             have n18_ := Aside0.mk ((by rw [hg]; exact Nat.ne_of_gt (blk_lt (qB BK357.out)) : gb377 ≠ gb357))
                             have n19_ := Aside0.mk ((by rw [hg]; exact Nat.ne_of_lt (blk_lt (qB BK361.out)) : gb361 ≠ gb377))
                             have n20_ := Aside0.mk ((by rw [hg]; exact Nat.ne_of_gt (blk_lt (qB BK361.out)) : gb377 ≠ gb361))
                             clear HO_15
                             clear HO_343002
                             clear BK335
                             clear BK342
                             clear BK346
                             clear BK357
                             clear BK361
                             clear HB
                             have HO_15 := n0_
                             have HO_343002 := n1_
                             have BK335 := n2_
                             have BK342 := n3_
                             have BK346 := n4_
                             have BK357 := n5_
                             have BK361 := n6_
                             have HB := n7_
                             have BK377 := n8_
                             have GW377 := n9_
                             have GE377 := n10_
                             have NB335_377 := n11_
                             have NB377_335 := n12_
                             have NB342_377 := n13_
                             have NB377_342 := n14_
                             have NB346_377 := n15_
                             have NB377_346 := n16_
                             have NB357_377 := n17_
                             have NB377_357 := n18_
                             have NB361_377 := n19_
                             have NB377_361 := n20_
                             clear n0_ n1_ n2_ n3_ n4_ n5_ n6_ n7_ n8_ n9_ n10_ n11_ n12_ n13_ n14_ n15_ n16_ n17_ n18_ n19_ n20_
                             clear hb hbox hg
                             refine hK.out _ _ ⟨(blk_cell BK357.out 0).trans rfl, (blk_cell BK357.out 1).trans rfl, HS2_, HS3_⟩ (fun hHeld => ?_)
                             clear hK K
                             refine norm_ (a' := ?_) ?_ ?_
                             rotate_left
                             · show Act.put _ (some 23) _ = _
                               simp only [Act.put, qa_, qz_, qs_, i64_w, i32_w]
                               rfl
                             exact norm_ (by simp only [putAll, Act.put, qa_, qz_, qs_]) (hCont (gb377) _ ⟨hHeld, (qR (Kd.R_mono HO_15.out (fun _ hk => ⟨hk.1.1, ⟨hk.1.2.1, ⟨hk.1.2.2, hk.2⟩⟩⟩))), (qR HO_343002.out), (qB BK335.out), (qB BK342.out), (qB BK346.out), (qB BK357.out), (qB BK361.out), (qB BK377.out), GW377.out, GE377.out, NB335_377.out, NB377_335.out, NB342_377.out, NB377_342.out, NB346_377.out, NB377_346.out, NB357_377.out, NB377_357.out, NB361_377.out, NB377_361.out, (by repeat (first | (with_reducible first | exact HB.out | apply below_alloc | apply pw_below_drewN | apply below_drew1 | refine below_set ?_ (Aside0.out (by assumption))) | exact HB.out))⟩)
                           · skip
                             refine box_step ?hg (N := 23) ?hd (cs := #[.int .i64 0, .int .i64 0]) (t := 26) ?hr ?_; (case hd => rfl); (case hg => rfl); (case hr => first | (go_simp; done) | (go_simp; rfl))
                             intro gb377 hg w83 hbox hb
                             have HS2_ := (hb.cell (World.block_lt_of_cell? _ _ (hHeld.2.2.1))).trans (hHeld.2.2.1)
                             have HS3_ := (hb.cell (World.block_lt_of_cell? _ _ (hHeld.2.2.2))).trans (hHeld.2.2.2)
                             have n0_ := Aside0.mk (Kd.R_below (Kd.R_elderB (qR HO_15.out) gb377 (Nat.le_of_eq hg.symm)) hb)
                             have n1_ := Aside0.mk (Kd.R_below (qR HO_343002.out) hb)
                             have n2_ := Aside0.mk (blk_below (qB BK335.out) hb)
                             have n3_ := Aside0.mk (blk_below (qB BK342.out) hb)
                             have n4_ := Aside0.mk (blk_below (qB BK346.out) hb)
                             have n5_ := Aside0.mk (blk_below (qB BK357.out) hb)
                             have n6_ := Aside0.mk (blk_below (qB BK361.out) hb)
                             have n7_ := Aside0.mk (below_step (by repeat (first | (with_reducible first | exact HB.out | apply below_alloc | apply pw_below_drewN | apply below_drew1 | refine below_set ?_ (Aside0.out (by assumption))) | exact HB.out)) hb)
                             have n8_ := Aside0.mk (hbox)
                             have n9_ := Aside0.mk ((by rw [hg]; exact (below_size (by repeat (first | (with_reducible first | exact HB.out | apply below_alloc | apply pw_below_drewN | apply below_drew1 | refine below_set ?_ (Aside0.out (by assumption))) | exact HB.out))) : w.heap.size ≤ gb377))
                             have n10_ := Aside0.mk ((by rw [hg]; exact (below_size (by repeat (first | (with_reducible first | exact HB.out | apply below_alloc | apply pw_below_drewN | apply below_drew1 | refine below_set ?_ (Aside0.out (by assumption))) | exact HB.out))) : w.heap.size ≤ gb377))
                             have n11_ := Aside0.mk ((by rw [hg]; exact Nat.ne_of_lt (blk_lt (qB BK335.out)) : gb335 ≠ gb377))
                             have n12_ := Aside0.mk ((by rw [hg]; exact Nat.ne_of_gt (blk_lt (qB BK335.out)) : gb377 ≠ gb335))
                             have n13_ := Aside0.mk ((by rw [hg]; exact Nat.ne_of_lt (blk_lt (qB BK342.out)) : gb342 ≠ gb377))
                             have n14_ := Aside0.mk ((by rw [hg]; exact Nat.ne_of_gt (blk_lt (qB BK342.out)) : gb377 ≠ gb342))
                             have n15_ := Aside0.mk ((by rw [hg]; exact Nat.ne_of_lt (blk_lt (qB BK346.out)) : gb346 ≠ gb377))
                             have n16_ := Aside0.mk ((by rw [hg]; exact Nat.ne_of_gt (blk_lt (qB BK346.out)) : gb377 ≠ gb346))
                             have n17_ := Aside0.mk ((by rw [hg]; exact Nat.ne_of_lt (blk_lt (qB BK357.out)) : gb357 ≠ gb377))
                             have n18_ := Aside0.mk ((by rw [hg]; exact Nat.ne_of_gt (blk_lt (qB BK357.out)) : gb377 ≠ gb357))
                             have n19_ := Aside0.mk ((by rw [hg]; exact Nat.ne_of_lt (blk_lt (qB BK361.out)) : gb361 ≠ gb377))
                             have n20_ := Aside0.mk ((by rw [hg]; exact Nat.ne_of_gt (blk_lt (qB BK361.out)) : gb377 ≠ gb361))
                             clear HO_15
                             clear HO_343002
                             clear BK335
                             clear BK342
                             clear BK346
                             clear BK357
                             clear BK361
                             clear HB
                             have HO_15 := n0_
                             have HO_343002 := n1_
                             have BK335 := n2_
                             have BK342 := n3_
                             have BK346 := n4_
                             have BK357 := n5_
                             have BK361 := n6_
                             have HB := n7_
                             have BK377 := n8_
                             have GW377 := n9_
                             have GE377 := n10_
                             have NB335_377 := n11_
                             have NB377_335 := n12_
                             have NB342_377 := n13_
                             have NB377_342 := n14_
                             have NB346_377 := n15_
                             have NB377_346 := n16_
                             have NB357_377 := n17_
                             have NB377_357 := n18_
                             have NB361_377 := n19_
                             have NB377_361 := n20_
                             clear n0_ n1_ n2_ n3_ n4_ n5_ n6_ n7_ n8_ n9_ n10_ n11_ n12_ n13_ n14_ n15_ n16_ n17_ n18_ n19_ n20_
                             clear hb hbox hg
                             refine hK.out _ _ ⟨(blk_cell BK357.out 0).trans rfl, (blk_cell BK357.out 1).trans rfl, HS2_, HS3_⟩ (fun hHeld => ?_)
                             clear hK K
                             refine norm_ (a' := ?_) ?_ ?_
                             rotate_left
                             · show Act.put _ (some 23) _ = _
                               simp only [Act.put, qa_, qz_, qs_, i64_w, i32_w]
                               rfl
                             refine one_ (i := 5) (N := some 125) #[true, true, true, true, true, true, false, false, false, true, false, false] rfl rfl (one_of HT_.out (by kernel_rfl)) (by decide) (fun K hK => ?_)
                             refine goes_ Try.func30 (by kernel_rfl) rfl #[.agg #[.int .i64 x358000_3, .int .i64 x358001_3], .agg #[.int .i64 ((rd_T26 t362 x20_3).f0), .int .i64 ((rd_T26 t362 x20_3).f1)]] (by rfl) rfl rfl (by (try simp only [List.map_toArray, List.map_cons, List.map_nil]); first | done | rfl | (simp only [List.length_drop, List.length_take]; rfl)) ?_
                             with_reducible refine (ratio_Add.calls x358000_3 x358001_3 ((rd_T26 t362 x20_3).f0) ((rd_T26 t362 x20_3).f1) t374 t375 t376 _ A80.out).mono ?_
                             rintro e w84 ⟨rfl, hb⟩
                             have HS2_ := (hb.cell (World.block_lt_of_cell? _ _ (hHeld.2.2.1))).trans (hHeld.2.2.1)
                             have HS3_ := (hb.cell (World.block_lt_of_cell? _ _ (hHeld.2.2.2))).trans (hHeld.2.2.2)
                             refine ⟨_, rfl, ?_⟩
                             have n0_ := Aside0.mk (Kd.R_below (qR HO_15.out) hb)
                             have n1_ := Aside0.mk (Kd.R_below (qR HO_343002.out) hb)
                             have n2_ := Aside0.mk (blk_below (qB BK335.out) hb)
                             have n3_ := Aside0.mk (blk_below (qB BK342.out) hb)
                             have n4_ := Aside0.mk (blk_below (qB BK346.out) hb)
                             have n5_ := Aside0.mk (blk_below (qB BK357.out) hb)
                             have n6_ := Aside0.mk (blk_below (qB BK361.out) hb)
                             have n7_ := Aside0.mk (blk_below (qB BK377.out) hb)
                             have n8_ := Aside0.mk (below_step (by repeat (first | (with_reducible first | exact HB.out | apply below_alloc | apply pw_below_drewN | apply below_drew1 | refine below_set ?_ (Aside0.out (by assumption))) | exact HB.out)) hb)
                             clear HO_15
                             clear HO_343002
                             clear BK335
                             clear BK342
                             clear BK346
                             clear BK357
                             clear BK361
                             clear BK377
                             clear HB
                             have HO_15 := n0_
                             have HO_343002 := n1_
                             have BK335 := n2_
                             have BK342 := n3_
                             have BK346 := n4_
                             have BK357 := n5_
                             have BK361 := n6_
                             have BK377 := n7_
                             have HB := n8_
                             clear n0_ n1_ n2_ n3_ n4_ n5_ n6_ n7_ n8_
                             (try clear hb)
                             (try clear hb2)
                             (try clear hk)
                             (try clear hi)
                             refine hK.out _ _ ⟨(blk_cell BK357.out 0).trans rfl, (blk_cell BK357.out 1).trans rfl, HS2_, HS3_⟩ (fun hHeld => ?_)
                             clear hK K
                             refine norm_ (a' := ?_) ?_ ?_
                             rotate_left
                             · show Act.put _ (some 125) _ = _
                               simp only [Act.put, qa_, qz_, qs_, i64_w, i32_w]
                               rfl
                             refine pure_ (i := 6) (N := some 119) (v := ?_) (a' := ?_) #[true, true, true, true, true, true, true, false, false, true, false, false] rfl rfl (any_of HT_.out (by kernel_rfl)) (fun _ _ _ h => h) (Or.inl ⟨by rfl, ?_⟩) ?_ ?_
                             rotate_left
                             · intro w'
                               go_simp
                               with_reducible rfl
                             rotate_left
                             · simp only [Act.put, qa_, qz_, qs_, i64_w, i32_w]
                               rfl
                             refine pure_ (i := 7) (N := some 126) (v := ?_) (a' := ?_) #[true, true, true, true, true, true, true, true, false, true, false, false] rfl rfl (any_of HT_.out (by kernel_rfl)) (fun _ _ _ h => h) (Or.inl ⟨by rfl, ?_⟩) ?_ ?_
                             rotate_left
                             · intro w'
                               go_simp
                               with_reducible rfl
                             rotate_left
                             · simp only [Act.put, qa_, qz_, qs_, i64_w, i32_w]
                               rfl
                             refine pure_ (i := 8) (N := some 127) (v := ?_) (a' := ?_) #[true, true, true, true, true, true, true, true, true, true, false, false] rfl rfl (any_of HT_.out (by kernel_rfl)) (fun _ _ _ h => h) (Or.inl ⟨by rfl, ?_⟩) ?_ ?_
                             rotate_left
                             · intro w'
                               go_simp
                               with_reducible rfl
                             rotate_left
                             · simp only [Act.put, qa_, qz_, qs_, i64_w, i32_w]
                               rfl
                             exact norm_ (by simp only [putAll, Act.put, qa_, qz_, qs_]) (hCont (gb377) _ ⟨hHeld, (qR (Kd.R_mono HO_15.out (fun _ hk => ⟨hk.1.1, ⟨hk.1.2.1, ⟨hk.1.2.2, hk.2⟩⟩⟩))), (qR HO_343002.out), (qB BK335.out), (qB BK342.out), (qB BK346.out), (qB BK357.out), (qB BK361.out), (qB BK377.out), GW377.out, GE377.out, NB335_377.out, NB377_335.out, NB342_377.out, NB377_342.out, NB346_377.out, NB377_346.out, NB357_377.out, NB377_357.out, NB361_377.out, NB377_361.out, (by repeat (first | (with_reducible first | exact HB.out | apply below_alloc | apply pw_below_drewN | apply below_drew1 | refine below_set ?_ (Aside0.out (by assumption))) | exact HB.out))⟩)
                         rintro gb377 w85 ⟨hS_, h0_, h1_, h2_, h3_, h4_, h5_, h6_, h7_, h8_, h9_, h10_, h11_, h12_, h13_, h14_, h15_, h16_, h17_, h18_, h19_, h20_⟩
                         have n0_ : Aside0 (Kd.R k26 26 w85 w.heap.size (fun k_ => k_ ≠ gb346 ∧ k_ ≠ gb357 ∧ k_ ≠ gb361 ∧ k_ ≠ gb377) (.slice (some ad366) t362.length co66) t362) := ⟨h0_⟩
                         have n1_ : Aside0 (Kd.R (Kd.int .i64) 3 w85 w.heap.size (fun _ => True) (.slice Ao18 t339.length co18) t339) := ⟨h1_⟩
                         have n2_ : Aside0 (w85.heap[gb335]? = some (.cells #[.int .i64 a0_0, .int .i64 a0_1, .slice A0_2 l0_2.length c0_2] 24 (0, 0))) := ⟨h2_⟩
                         have n3_ : Aside0 (w85.heap[gb342]? = some (.cells #[.int .i64 t337, .int .i64 t338, .slice Ao18 t339.length co18] 24 (0, 0))) := ⟨h3_⟩
                         have n4_ : Aside0 (w85.heap[gb346]? = some (.cells #[.int .i64 t343, .int .i64 t344] 26 (0, 0))) := ⟨h4_⟩
                         have n5_ : Aside0 (w85.heap[gb357]? = some (.cells #[.int .i64 x358000_3, .int .i64 x358001_3] 26 (0, 0))) := ⟨h5_⟩
                         have n6_ : Aside0 (w85.heap[gb361]? = some (.cells #[.int .i64 t358, .int .i64 t359] 26 (0, 0))) := ⟨h6_⟩
                         have n7_ : Aside0 (w85.heap[gb377]? = some (.cells #[.int .i64 0, .int .i64 0] 26 (0, 0))) := ⟨h7_⟩
                         have n8_ : Aside0 (w.heap.size ≤ gb377) := ⟨h8_⟩
                         have n9_ : Aside0 (w.heap.size ≤ gb377) := ⟨h9_⟩
                         have n10_ : Aside0 (gb335 ≠ gb377) := ⟨h10_⟩
                         have n11_ : Aside0 (gb377 ≠ gb335) := ⟨h11_⟩
                         have n12_ : Aside0 (gb342 ≠ gb377) := ⟨h12_⟩
                         have n13_ : Aside0 (gb377 ≠ gb342) := ⟨h13_⟩
                         have n14_ : Aside0 (gb346 ≠ gb377) := ⟨h14_⟩
                         have n15_ : Aside0 (gb377 ≠ gb346) := ⟨h15_⟩
                         have n16_ : Aside0 (gb357 ≠ gb377) := ⟨h16_⟩
                         have n17_ : Aside0 (gb377 ≠ gb357) := ⟨h17_⟩
                         have n18_ : Aside0 (gb361 ≠ gb377) := ⟨h18_⟩
                         have n19_ : Aside0 (gb377 ≠ gb361) := ⟨h19_⟩
                         have n20_ : Aside0 (Below w.heap.size w w85) := ⟨h20_⟩
                         clear HO_15
                         clear HO_343002
                         clear BK335
                         clear BK342
                         clear BK346
                         clear BK357
                         clear BK361
                         clear HB
                         clear h0_ h1_ h2_ h3_ h4_ h5_ h6_ h7_ h8_ h9_ h10_ h11_ h12_ h13_ h14_ h15_ h16_ h17_ h18_ h19_ h20_
                         have HO_15 := n0_
                         have HO_343002 := n1_
                         have BK335 := n2_
                         have BK342 := n3_
                         have BK346 := n4_
                         have BK357 := n5_
                         have BK361 := n6_
                         have BK377 := n7_
                         have GW377 := n8_
                         have GE377 := n9_
                         have NB335_377 := n10_
                         have NB377_335 := n11_
                         have NB342_377 := n12_
                         have NB377_342 := n13_
                         have NB346_377 := n14_
                         have NB377_346 := n15_
                         have NB357_377 := n16_
                         have NB377_357 := n17_
                         have NB361_377 := n18_
                         have NB377_361 := n19_
                         have HB := n20_
                         clear n0_ n1_ n2_ n3_ n4_ n5_ n6_ n7_ n8_ n9_ n10_ n11_ n12_ n13_ n14_ n15_ n16_ n17_ n18_ n19_ n20_
                         have hHeld : w85.cell? ⟨gb357, 0, none⟩ = some (.int .i64 x358000_3) ∧ w85.cell? ⟨gb357, 1, none⟩ = some (.int .i64 x358001_3) ∧ w85.cell? (ad366.add ((x20_3).toNat * 2)) = some (.int .i64 ((rd_T26 t362 x20_3).f0)) ∧ w85.cell? ⟨(ad366.add ((x20_3).toNat * 2)).block, (ad366.add ((x20_3).toNat * 2)).off + 1, none⟩ = some (.int .i64 ((rd_T26 t362 x20_3).f1)) := hS_
                         refine norm_ (a' := ?_) ?_ ?_
                         rotate_left
                         · simp only [putAll, Act.put, qa_, qz_, qs_]
                           rfl
                         refine one_ (i := 10) (N := none) #[true, true, true, true, true, true, true, true, true, true, true, false] rfl rfl (one_of HT_.out (by kernel_rfl)) (by decide) (fun K hK => ?_)
                         have hs86 : w85.cell? ⟨gb377, 0, none⟩ = some (.int .i64 0) := (blk_cell BK377.out 0).trans rfl
                         have hfs86 := blk_frozen BK377.out 0
                         have hns86_0 := NB335_377.out
                         have hns86_1 := NB342_377.out
                         have hns86_2 := NB346_377.out
                         have hns86_3 := NB357_377.out
                         have hns86_4 := NB361_377.out
                         have hms86_0 := NB377_335.out
                         have hms86_1 := NB377_342.out
                         have hms86_2 := NB377_346.out
                         have hms86_3 := NB377_357.out
                         have hms86_4 := NB377_361.out
                         have hs87 : w85.cell? ⟨gb377, 1, none⟩ = some (.int .i64 0) := (blk_cell BK377.out 1).trans rfl
                         have hfs87 := blk_frozen BK377.out 1
                         have hns87_0 := NB335_377.out
                         have hns87_1 := NB342_377.out
                         have hns87_2 := NB346_377.out
                         have hns87_3 := NB357_377.out
                         have hns87_4 := NB361_377.out
                         have hms87_0 := NB377_335.out
                         have hms87_1 := NB377_342.out
                         have hms87_2 := NB377_346.out
                         have hms87_3 := NB377_357.out
                         have hms87_4 := NB377_361.out
                         refine skip_ (w1 := ?_) (by rfl) rfl ?_ ?_
                         rotate_left
                         · go_simp
                           rfl
                         refine hK.out _ _ ⟨((cell_far (p := ⟨gb377, _, none⟩) NB357_377.out _).trans (((cell_far (p := ⟨gb377, _, none⟩) NB357_377.out _).trans (hHeld.1)))), ((cell_far (p := ⟨gb377, _, none⟩) NB357_377.out _).trans (((cell_far (p := ⟨gb377, _, none⟩) NB357_377.out _).trans (hHeld.2.1)))), ((cell_far (p := ⟨gb377, _, none⟩) (by first | exact Kd.own_blk (Kd.R_away HO_15.out (fun _ hk => hk.2.2.2)) | (rw [add_block]; exact Kd.own_blk (Kd.R_away HO_15.out (fun _ hk => hk.2.2.2))) | (show (Addr.add _ _).block ≠ _; rw [add_block]; exact Kd.own_blk (Kd.R_away HO_15.out (fun _ hk => hk.2.2.2))) | (dsimp only; exact Kd.own_blk (Kd.R_away HO_15.out (fun _ hk => hk.2.2.2)))) _).trans (((cell_far (p := ⟨gb377, _, none⟩) (by first | exact Kd.own_blk (Kd.R_away HO_15.out (fun _ hk => hk.2.2.2)) | (rw [add_block]; exact Kd.own_blk (Kd.R_away HO_15.out (fun _ hk => hk.2.2.2))) | (show (Addr.add _ _).block ≠ _; rw [add_block]; exact Kd.own_blk (Kd.R_away HO_15.out (fun _ hk => hk.2.2.2))) | (dsimp only; exact Kd.own_blk (Kd.R_away HO_15.out (fun _ hk => hk.2.2.2)))) _).trans (hHeld.2.2.1)))), ((cell_far (p := ⟨gb377, _, none⟩) (by first | exact Kd.own_blk (Kd.R_away HO_15.out (fun _ hk => hk.2.2.2)) | (rw [add_block]; exact Kd.own_blk (Kd.R_away HO_15.out (fun _ hk => hk.2.2.2))) | (show (Addr.add _ _).block ≠ _; rw [add_block]; exact Kd.own_blk (Kd.R_away HO_15.out (fun _ hk => hk.2.2.2))) | (dsimp only; exact Kd.own_blk (Kd.R_away HO_15.out (fun _ hk => hk.2.2.2)))) _).trans (((cell_far (p := ⟨gb377, _, none⟩) (by first | exact Kd.own_blk (Kd.R_away HO_15.out (fun _ hk => hk.2.2.2)) | (rw [add_block]; exact Kd.own_blk (Kd.R_away HO_15.out (fun _ hk => hk.2.2.2))) | (show (Addr.add _ _).block ≠ _; rw [add_block]; exact Kd.own_blk (Kd.R_away HO_15.out (fun _ hk => hk.2.2.2))) | (dsimp only; exact Kd.own_blk (Kd.R_away HO_15.out (fun _ hk => hk.2.2.2)))) _).trans (hHeld.2.2.2))))⟩ (fun hHeld => ?_)
                         clear hK K
                         refine pure_ (i := 11) (N := some 24) (v := ?_) (a' := ?_) #[true, true, true, true, true, true, true, true, true, true, true, true] rfl rfl (any_of HT_.out (by kernel_rfl)) (fun _ _ _ h => h) (Or.inl ⟨by rfl, ?_⟩) ?_ ?_
                         rotate_left
                         · intro w'
                           go_simp
                           with_reducible rfl
                         rotate_left
                         · simp only [Act.put, qa_, qz_, qs_, i64_w, i32_w]
                           rfl
                         refine done_ (done_of HT_.out (by kernel_rfl)) ?_
                         have hnb88 := NB377_335.out
                         have hnc88 := NB335_377.out
                         have hnb89 := NB377_342.out
                         have hnc89 := NB342_377.out
                         have hnb90 := NB377_346.out
                         have hnc90 := NB346_377.out
                         have hnb91 := NB377_357.out
                         have hnc91 := NB357_377.out
                         have hnb92 := NB377_361.out
                         have hnc92 := NB361_377.out
                         have hcz93_0 : w85.cell? ⟨gb377, 0, none⟩ = some (.int .i64 0) := (blk_cell BK377.out 0).trans rfl
                         have hcz93_1 : w85.cell? ⟨gb377, 1, none⟩ = some (.int .i64 0) := (blk_cell BK377.out 1).trans rfl
                         have hfz93_0 := blk_frozen BK377.out 0
                         have hfz93_1 := blk_frozen BK377.out 1
                         have hnb94 := NB357_335.out
                         have hnc94 := NB335_357.out
                         have hnb95 := NB357_342.out
                         have hnc95 := NB342_357.out
                         have hnb96 := NB357_346.out
                         have hnc96 := NB346_357.out
                         have hnb97 := NB357_361.out
                         have hnc97 := NB361_357.out
                         have hcz98_0 : w85.cell? ⟨gb357, 0, none⟩ = some (.int .i64 x358000_3) := (blk_cell BK357.out 0).trans rfl
                         have hcz98_1 : w85.cell? ⟨gb357, 1, none⟩ = some (.int .i64 x358001_3) := (blk_cell BK357.out 1).trans rfl
                         have hfz98_0 := blk_frozen BK357.out 0
                         have hfz98_1 := blk_frozen BK357.out 1
                         try go_wp2
                         go_roundg kj64
                         case measure => have := HJ9.out; have := HJ37.out; have := HK3.out; have := HJ64.out; omega
                         case rel => exact ⟨(wrap64 (x20_3 + 1)), (t374), (t375), (by first | rfl | (simp; done) | (simp [*]; done)), H', ⟨by have := HJ9.out; have := HJ37.out; have := HK3.out; have := HJ64.out; omega⟩, ⟨by (with_reducible repeat (first | apply Kd.R_alloc | apply Kd.R_drewN | apply Kd.R_drew)); exact Kd.R_mono (Kd.R_far (p := ⟨gb357, 1, none⟩) (Kd.R_far (p := ⟨gb357, 0, none⟩) (Kd.R_far (p := ⟨gb377, 1, none⟩) (Kd.R_far (p := ⟨gb377, 0, none⟩) (Kd.R_mono (Kd.R_mono HO_15.out (fun k_ hk => (⟨hk, hk.2.2.2⟩ : _ ∧ k_ ≠ gb377))) (fun k_ hk => (⟨hk, hk.1.2.1⟩ : _ ∧ k_ ≠ gb357))) (fun _ hk => hk.1.2) (.int .i64 t374)) (fun _ hk => hk.1.2) (.int .i64 t375)) (fun _ hk => hk.2) (.int .i64 t374)) (fun _ hk => hk.2) (.int .i64 t375)) (fun _ hk => ⟨hk.1.1.1, ⟨hk.1.1.2.1, hk.1.1.2.2.1⟩⟩)⟩, ⟨by (with_reducible repeat (first | apply Kd.R_alloc | apply Kd.R_drewN | apply Kd.R_drew)); exact Kd.R_mono (Kd.R_far (p := ⟨gb357, 1, none⟩) (Kd.R_far (p := ⟨gb357, 0, none⟩) (Kd.R_far (p := ⟨gb377, 1, none⟩) (Kd.R_far (p := ⟨gb377, 0, none⟩) (Kd.R_types (Kd.R_types HO_343002.out BK377.out (by decide)) BK357.out (by decide)) (fun _ hk => hk.1.2) (.int .i64 t374)) (fun _ hk => hk.1.2) (.int .i64 t375)) (fun _ hk => hk.2) (.int .i64 t374)) (fun _ hk => hk.2) (.int .i64 t375)) (fun _ hk => trivial)⟩, ⟨by (with_reducible repeat (first | refine blk_drewN ?_ _ | refine blk_drew ?_ | refine blk_alloc ?_ _)); refine blk_far ?_ NB335_357.out _; (with_reducible repeat (first | refine blk_drewN ?_ _ | refine blk_drew ?_ | refine blk_alloc ?_ _)); refine blk_far ?_ NB335_357.out _; (with_reducible repeat (first | refine blk_drewN ?_ _ | refine blk_drew ?_ | refine blk_alloc ?_ _)); refine blk_far ?_ NB335_377.out _; (with_reducible repeat (first | refine blk_drewN ?_ _ | refine blk_drew ?_ | refine blk_alloc ?_ _)); refine blk_far ?_ NB335_377.out _; (with_reducible repeat (first | refine blk_drewN ?_ _ | refine blk_drew ?_ | refine blk_alloc ?_ _)); exact BK335.out⟩, ⟨by (with_reducible repeat (first | refine blk_drewN ?_ _ | refine blk_drew ?_ | refine blk_alloc ?_ _)); refine blk_far ?_ NB342_357.out _; (with_reducible repeat (first | refine blk_drewN ?_ _ | refine blk_drew ?_ | refine blk_alloc ?_ _)); refine blk_far ?_ NB342_357.out _; (with_reducible repeat (first | refine blk_drewN ?_ _ | refine blk_drew ?_ | refine blk_alloc ?_ _)); refine blk_far ?_ NB342_377.out _; (with_reducible repeat (first | refine blk_drewN ?_ _ | refine blk_drew ?_ | refine blk_alloc ?_ _)); refine blk_far ?_ NB342_377.out _; (with_reducible repeat (first | refine blk_drewN ?_ _ | refine blk_drew ?_ | refine blk_alloc ?_ _)); exact BK342.out⟩, ⟨by (with_reducible repeat (first | refine blk_drewN ?_ _ | refine blk_drew ?_ | refine blk_alloc ?_ _)); refine blk_far ?_ NB346_357.out _; (with_reducible repeat (first | refine blk_drewN ?_ _ | refine blk_drew ?_ | refine blk_alloc ?_ _)); refine blk_far ?_ NB346_357.out _; (with_reducible repeat (first | refine blk_drewN ?_ _ | refine blk_drew ?_ | refine blk_alloc ?_ _)); refine blk_far ?_ NB346_377.out _; (with_reducible repeat (first | refine blk_drewN ?_ _ | refine blk_drew ?_ | refine blk_alloc ?_ _)); refine blk_far ?_ NB346_377.out _; (with_reducible repeat (first | refine blk_drewN ?_ _ | refine blk_drew ?_ | refine blk_alloc ?_ _)); exact BK346.out⟩, ⟨by (with_reducible repeat (first | refine blk_drewN ?_ _ | refine blk_drew ?_ | refine blk_alloc ?_ _)); refine blk_put (cs := #[.int .i64 t374, .int .i64 x358001_3]) ?_ 1 _ rfl; (with_reducible repeat (first | refine blk_drewN ?_ _ | refine blk_drew ?_ | refine blk_alloc ?_ _)); refine blk_put (cs := #[.int .i64 x358000_3, .int .i64 x358001_3]) ?_ 0 _ rfl; (with_reducible repeat (first | refine blk_drewN ?_ _ | refine blk_drew ?_ | refine blk_alloc ?_ _)); refine blk_far ?_ NB357_377.out _; (with_reducible repeat (first | refine blk_drewN ?_ _ | refine blk_drew ?_ | refine blk_alloc ?_ _)); refine blk_far ?_ NB357_377.out _; (with_reducible repeat (first | refine blk_drewN ?_ _ | refine blk_drew ?_ | refine blk_alloc ?_ _)); exact BK357.out⟩, ⟨by (with_reducible repeat (first | refine blk_drewN ?_ _ | refine blk_drew ?_ | refine blk_alloc ?_ _)); refine blk_far ?_ NB361_357.out _; (with_reducible repeat (first | refine blk_drewN ?_ _ | refine blk_drew ?_ | refine blk_alloc ?_ _)); refine blk_far ?_ NB361_357.out _; (with_reducible repeat (first | refine blk_drewN ?_ _ | refine blk_drew ?_ | refine blk_alloc ?_ _)); refine blk_far ?_ NB361_377.out _; (with_reducible repeat (first | refine blk_drewN ?_ _ | refine blk_drew ?_ | refine blk_alloc ?_ _)); refine blk_far ?_ NB361_377.out _; (with_reducible repeat (first | refine blk_drewN ?_ _ | refine blk_drew ?_ | refine blk_alloc ?_ _)); exact BK361.out⟩, ⟨by repeat (first | (with_reducible first | exact HB.out | apply below_alloc | apply pw_below_drewN | apply below_drew1 | refine below_set ?_ (Aside0.out (by assumption))) | exact HB.out)⟩⟩
                       · rw [if_neg c81] at H
                         cases H
                     · rw [if_neg c79] at H
                       exact absurd H (by simp)
                   · rw [if_neg c78] at H
                     exact absurd H (by simp)
             · rw [if_neg c63] at H
               exact absurd H (by simp)
           · rw [if_neg c62] at H
             have c62b0 : decide (x20_3 < (t362.length : Int)) = false := decide_eq_false c62
             clear c62
             by_cases c105 : t336 = true
             · subst c105
               have H1 : (some (x358000_3 == t343 && (x358001_3 == t344))) = some r := by rw [if_pos rfl] at H; exact H
               clear H
               have H := H1
               clear H1
               obtain rfl := Option.some.inj H
               obtain ⟨Ao106, co106, eo106⟩ := Kd.R_slice HO_15.out
               subst eo106
               have hnb107 := NB357_335.out
               have hnc107 := NB335_357.out
               have hnb108 := NB357_342.out
               have hnc108 := NB342_357.out
               have hnb109 := NB357_346.out
               have hnc109 := NB346_357.out
               have hnb110 := NB357_361.out
               have hnc110 := NB361_357.out
               have hcz111_0 : wr.cell? ⟨gb357, 0, none⟩ = some (.int .i64 x358000_3) := (blk_cell BK357.out 0).trans rfl
               have hcz111_1 : wr.cell? ⟨gb357, 1, none⟩ = some (.int .i64 x358001_3) := (blk_cell BK357.out 1).trans rfl
               have hfz111_0 := blk_frozen BK357.out 0
               have hfz111_1 := blk_frozen BK357.out 1
               have hnb112 := NB346_335.out
               have hnc112 := NB335_346.out
               have hnb113 := NB346_342.out
               have hnc113 := NB342_346.out
               have hnb114 := NB346_361.out
               have hnc114 := NB361_346.out
               have hcz115_0 : wr.cell? ⟨gb346, 0, none⟩ = some (.int .i64 t343) := (blk_cell BK346.out 0).trans rfl
               have hcz115_1 : wr.cell? ⟨gb346, 1, none⟩ = some (.int .i64 t344) := (blk_cell BK346.out 1).trans rfl
               have hfz115_0 := blk_frozen BK346.out 0
               have hfz115_1 := blk_frozen BK346.out 1
               go_wp2
               go_ret
               exact ⟨by first | rfl | (simp [errW_none, errW_some] <;> rfl) | (simp [*, errW_none, errW_some] <;> rfl), by repeat (first | (with_reducible first | exact HB.out | apply below_alloc | apply pw_below_drewN | apply below_drew1 | refine below_set ?_ (Aside0.out (by assumption))) | exact HB.out)⟩
             · replace c105 := Bool.eq_false_iff.mpr c105
               subst c105
               have H1 : none = some r := by rw [if_neg (show ¬ (false = true) by decide)] at H; exact H
               cases H1
end Go.Proofs.Ytbncdlnnjhadgaa.Q
