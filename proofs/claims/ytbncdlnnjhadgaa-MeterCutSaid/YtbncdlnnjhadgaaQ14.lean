-- Written by a program of this session (myprint.py), function by function.
import Derived.Test.YtbncdlnnjhadgaaQ0
import Derived.Test.YtbncdlnnjhadgaaSmallMost
import Derived.Test.YtbncdlnnjhadgaaQ1
import Derived.Test.YtbncdlnnjhadgaaQ2
import Derived.Test.YtbncdlnnjhadgaaQ3
import Derived.Test.YtbncdlnnjhadgaaQ4
import Derived.Test.YtbncdlnnjhadgaaQ5
import Derived.Test.YtbncdlnnjhadgaaQ6
import Derived.Test.YtbncdlnnjhadgaaQ7
import Derived.Test.YtbncdlnnjhadgaaQ9
namespace Go.Proofs.Ytbncdlnnjhadgaa.Q
open Go.RowKit Go.Proofs.YtbncdlnnjhadgaaW.PrintWords Go.Proofs.YtbncdlnnjhadgaaW.PrintLast Go.Proofs.YtbncdlnnjhadgaaW.PrintMore
attribute [local go_sem] max2_int min2_int max_two min_two max_three min_three max_four min_four   -- for this text's walks alone
set_option linter.unusedVariables false
set_option linter.unusedSimpArgs false

attribute [local go_sem high] eqA26
/-! ### partitalaw05_MeterCut: function 5 -/
mutual
def partitalaw05_MeterCut.j0 : Nat → Bool → List (S26) → List (S26) → Bool → Int → Int → List Int → Int → Int → Int → Int → Option (Bool)
 | 0, _, _, _, _, _, _, _, _, _, _, _ => none
 | k + 1, x11, x18, x20, x99, x300000, x300001, x300002, x303000, x303001, x310000, x310001 => if x99 = true then none else (partitalaw05_MeterCut.l0 k x11 x18 x20 0 x300000 x300001 x300002 x310000 x310001 x303000 x303001)
def partitalaw05_MeterCut.l0 : Nat → Bool → List (S26) → List (S26) → Int → Int → Int → List Int → Int → Int → Int → Int → Option (Bool)
 | 0, _, _, _, _, _, _, _, _, _, _, _ => none
 | k + 1, x11, x18, x20, x23, x300000, x300001, x300002, x310000, x310001, x323000, x323001 => if x23 < (x18.length : Int) then ((meter_Weight.f k x300000 x300001 x300002 x323000 x323001).bind fun bt323 => (if 0 ≤ x23 then ((ratio_Add.f x323000 x323001 ((rd_T26 x18 x23).f0) ((rd_T26 x18 x23).f1)).bind fun bt326 => (if bt323.2 = 0 then (if bt326.2.2 = 0 then (if ((rd_T26 x18 x23).f0) ≤ 0 then (partitalaw05_MeterCut.j2 k x11 x18 x20 x23 true x300000 x300001 x300002 x310000 x310001 x323000 x323001 bt326.1 bt326.2.1) else (if x23 > 0 then (partitalaw05_MeterCut.j2 k x11 x18 x20 x23 (decide (bt323.1 < 2)) x300000 x300001 x300002 x310000 x310001 x323000 x323001 bt326.1 bt326.2.1) else (partitalaw05_MeterCut.j2 k x11 x18 x20 x23 false x300000 x300001 x300002 x310000 x310001 x323000 x323001 bt326.1 bt326.2.1))) else (partitalaw05_MeterCut.j2 k x11 x18 x20 x23 true x300000 x300001 x300002 x310000 x310001 x323000 x323001 bt326.1 bt326.2.1)) else (partitalaw05_MeterCut.j2 k x11 x18 x20 x23 true x300000 x300001 x300002 x310000 x310001 x323000 x323001 bt326.1 bt326.2.1))) else (none))) else (if x11 = true then (some (x323000 == x310000 && (x323001 == x310001))) else none)
def partitalaw05_MeterCut.j2 : Nat → Bool → List (S26) → List (S26) → Int → Bool → Int → Int → List Int → Int → Int → Int → Int → Int → Int → Option (Bool)
 | 0, _, _, _, _, _, _, _, _, _, _, _, _, _, _ => none
 | k + 1, x11, x18, x20, x23, x143, x300000, x300001, x300002, x310000, x310001, x323000, x323001, x330000, x330001 => if x143 = true then none else (partitalaw05_MeterCut.l1 k x11 x18 x20 x23 0 x300000 x300001 x300002 x310000 x310001 x323000 x323001 x330000 x330001)
def partitalaw05_MeterCut.l1 : Nat → Bool → List (S26) → List (S26) → Int → Int → Int → Int → List Int → Int → Int → Int → Int → Int → Int → Option (Bool)
 | 0, _, _, _, _, _, _, _, _, _, _, _, _, _, _ => none
 | k + 1, x11, x18, x20, x23, x28, x300000, x300001, x300002, x310000, x310001, x323000, x323001, x330000, x330001 => if x28 < (x20.length : Int) then (if 0 ≤ x28 then ((ratio_Compare.f ((rd_T26 x20 x28).f0) ((rd_T26 x20 x28).f1) x323000 x323001).bind fun t332 => (if t332 > 0 then ((ratio_Compare.f ((rd_T26 x20 x28).f0) ((rd_T26 x20 x28).f1) x330000 x330001).bind fun t334 => (if t334 < 0 then none else (partitalaw05_MeterCut.l1 k x11 x18 x20 x23 (wrap64 (x28 + 1)) x300000 x300001 x300002 x310000 x310001 x323000 x323001 x330000 x330001))) else (partitalaw05_MeterCut.l1 k x11 x18 x20 x23 (wrap64 (x28 + 1)) x300000 x300001 x300002 x310000 x310001 x323000 x323001 x330000 x330001))) else (none)) else (partitalaw05_MeterCut.l0 k x11 x18 x20 (wrap64 (x23 + 1)) x300000 x300001 x300002 x310000 x310001 x330000 x330001)
end
def partitalaw05_MeterCut.f (k : Nat) (a0_0 : Int) (a0_1 : Int) (l0_2 : List Int) (a1 : Bool) (a2 : Int) (a3 : Int) (a4 : Int) : Option (Bool) := (partitalaw05_awake.f k).bind fun t293 => ((partitalaw05_Meter.f k a0_0 a0_1 l0_2 a1).bind fun bt294 => ((partitalaw05_place.f k bt294.1 bt294.2.1 bt294.2.2 a2 a4).bind fun bt300 => ((partitalaw05_pick.f a4 12).bind fun t303 => ((partitalaw05_pick.f a3 (wrap64 (bt294.1 * (wrap64 (1 + t303))))).bind fun t304 => ((partitalaw05_pick.f a4 12).bind fun t305 => ((partitaref01_Of.f k (wrap64 (1 + t304)) (wrap64 (bt294.2.1 * (wrap64 (1 + t305))))).bind fun bt306 => ((ratio_Sub.f bt306.1 bt306.2.1 bt300.1 bt300.2).bind fun bt310 => (if bt310.2.2 = 0 then ((meter_Cut.f k bt294.1 bt294.2.1 bt294.2.2 bt300.1 bt300.2 bt310.1 bt310.2.1).bind fun bt314 => (if bt310.1 ≤ 0 then (if t293 = true then (if bt314.2 = 2 then (some ((bt314.1.length : Int) == 0)) else none) else none) else ((meter_Beats.f k bt294.1 bt294.2.1 bt294.2.2).bind fun bt318 => (if bt314.2 = 0 then (if bt318.2 = 0 then (partitalaw05_MeterCut.j0 k t293 bt314.1 bt318.1 ((bt314.1.length : Int) == 0) bt294.1 bt294.2.1 bt294.2.2 bt300.1 bt300.2 bt306.1 bt306.2.1) else (partitalaw05_MeterCut.j0 k t293 bt314.1 bt318.1 true bt294.1 bt294.2.1 bt294.2.2 bt300.1 bt300.2 bt306.1 bt306.2.1)) else (partitalaw05_MeterCut.j0 k t293 bt314.1 bt318.1 true bt294.1 bt294.2.1 bt294.2.2 bt300.1 bt300.2 bt306.1 bt306.2.1))))) else none))))))))
theorem partitalaw05_MeterCut.mono_l : ∀ k, (∀ y0 y1 y2 y3 y4 y5 y6 y7 y8 y9 y10, LeO (partitalaw05_MeterCut.j0 k y0 y1 y2 y3 y4 y5 y6 y7 y8 y9 y10) (partitalaw05_MeterCut.j0 (k + 1) y0 y1 y2 y3 y4 y5 y6 y7 y8 y9 y10)) ∧ (∀ y0 y1 y2 y3 y4 y5 y6 y7 y8 y9 y10, LeO (partitalaw05_MeterCut.l0 k y0 y1 y2 y3 y4 y5 y6 y7 y8 y9 y10) (partitalaw05_MeterCut.l0 (k + 1) y0 y1 y2 y3 y4 y5 y6 y7 y8 y9 y10)) ∧ (∀ y0 y1 y2 y3 y4 y5 y6 y7 y8 y9 y10 y11 y12 y13, LeO (partitalaw05_MeterCut.j2 k y0 y1 y2 y3 y4 y5 y6 y7 y8 y9 y10 y11 y12 y13) (partitalaw05_MeterCut.j2 (k + 1) y0 y1 y2 y3 y4 y5 y6 y7 y8 y9 y10 y11 y12 y13)) ∧ (∀ y0 y1 y2 y3 y4 y5 y6 y7 y8 y9 y10 y11 y12 y13, LeO (partitalaw05_MeterCut.l1 k y0 y1 y2 y3 y4 y5 y6 y7 y8 y9 y10 y11 y12 y13) (partitalaw05_MeterCut.l1 (k + 1) y0 y1 y2 y3 y4 y5 y6 y7 y8 y9 y10 y11 y12 y13))
 | 0 => ⟨fun _ _ _ _ _ _ _ _ _ _ _ r h => by simp [partitalaw05_MeterCut.j0] at h, fun _ _ _ _ _ _ _ _ _ _ _ r h => by simp [partitalaw05_MeterCut.l0] at h, fun _ _ _ _ _ _ _ _ _ _ _ _ _ _ r h => by simp [partitalaw05_MeterCut.j2] at h, fun _ _ _ _ _ _ _ _ _ _ _ _ _ _ r h => by simp [partitalaw05_MeterCut.l1] at h⟩
 | k + 1 => by
  obtain ⟨ih0, ih1, ih2, ih3⟩ := partitalaw05_MeterCut.mono_l k
  refine ⟨?_, ?_, ?_, ?_⟩
  · intro y0 y1 y2 y3 y4 y5 y6 y7 y8 y9 y10
    unfold partitalaw05_MeterCut.j0
    repeat' first
    | (with_reducible exact ih0 _ _ _ _ _ _ _ _ _ _ _)
    | (with_reducible exact ih1 _ _ _ _ _ _ _ _ _ _ _)
    | (with_reducible exact ih2 _ _ _ _ _ _ _ _ _ _ _ _ _ _)
    | (with_reducible exact ih3 _ _ _ _ _ _ _ _ _ _ _ _ _ _)
    | (with_reducible exact meter_Beats.mono _ _ _ _)
    | (with_reducible exact meter_Cut.mono _ _ _ _ _ _ _ _)
    | (with_reducible exact meter_Weight.mono _ _ _ _ _ _)
    | (with_reducible exact partitalaw05_Meter.mono _ _ _ _ _)
    | (with_reducible exact partitalaw05_awake.mono _)
    | (with_reducible exact partitalaw05_place.mono _ _ _ _ _ _)
    | (with_reducible exact partitaref01_Of.mono _ _ _)
    | (with_reducible exact LeO.refl _)
    | (with_reducible exact LeO.none _)
    | (with_reducible refine LeO.ite ?_ ?_)
    | (with_reducible refine LeO.bind ?_ (fun _ => ?_))
    | exact ih0 _ _ _ _ _ _ _ _ _ _ _
    | exact ih1 _ _ _ _ _ _ _ _ _ _ _
    | exact ih2 _ _ _ _ _ _ _ _ _ _ _ _ _ _
    | exact ih3 _ _ _ _ _ _ _ _ _ _ _ _ _ _
    | exact meter_Beats.mono _ _ _ _
    | exact meter_Cut.mono _ _ _ _ _ _ _ _
    | exact meter_Weight.mono _ _ _ _ _ _
    | exact partitalaw05_Meter.mono _ _ _ _ _
    | exact partitalaw05_awake.mono _
    | exact partitalaw05_place.mono _ _ _ _ _ _
    | exact partitaref01_Of.mono _ _ _
    | exact LeO.none _
    | refine LeO.ite ?_ ?_
    | refine LeO.bind ?_ (fun _ => ?_)
  · intro y0 y1 y2 y3 y4 y5 y6 y7 y8 y9 y10
    unfold partitalaw05_MeterCut.l0
    repeat' first
    | (with_reducible exact ih0 _ _ _ _ _ _ _ _ _ _ _)
    | (with_reducible exact ih1 _ _ _ _ _ _ _ _ _ _ _)
    | (with_reducible exact ih2 _ _ _ _ _ _ _ _ _ _ _ _ _ _)
    | (with_reducible exact ih3 _ _ _ _ _ _ _ _ _ _ _ _ _ _)
    | (with_reducible exact meter_Beats.mono _ _ _ _)
    | (with_reducible exact meter_Cut.mono _ _ _ _ _ _ _ _)
    | (with_reducible exact meter_Weight.mono _ _ _ _ _ _)
    | (with_reducible exact partitalaw05_Meter.mono _ _ _ _ _)
    | (with_reducible exact partitalaw05_awake.mono _)
    | (with_reducible exact partitalaw05_place.mono _ _ _ _ _ _)
    | (with_reducible exact partitaref01_Of.mono _ _ _)
    | (with_reducible exact LeO.refl _)
    | (with_reducible exact LeO.none _)
    | (with_reducible refine LeO.ite ?_ ?_)
    | (with_reducible refine LeO.bind ?_ (fun _ => ?_))
    | exact ih0 _ _ _ _ _ _ _ _ _ _ _
    | exact ih1 _ _ _ _ _ _ _ _ _ _ _
    | exact ih2 _ _ _ _ _ _ _ _ _ _ _ _ _ _
    | exact ih3 _ _ _ _ _ _ _ _ _ _ _ _ _ _
    | exact meter_Beats.mono _ _ _ _
    | exact meter_Cut.mono _ _ _ _ _ _ _ _
    | exact meter_Weight.mono _ _ _ _ _ _
    | exact partitalaw05_Meter.mono _ _ _ _ _
    | exact partitalaw05_awake.mono _
    | exact partitalaw05_place.mono _ _ _ _ _ _
    | exact partitaref01_Of.mono _ _ _
    | exact LeO.none _
    | refine LeO.ite ?_ ?_
    | refine LeO.bind ?_ (fun _ => ?_)
  · intro y0 y1 y2 y3 y4 y5 y6 y7 y8 y9 y10 y11 y12 y13
    unfold partitalaw05_MeterCut.j2
    repeat' first
    | (with_reducible exact ih0 _ _ _ _ _ _ _ _ _ _ _)
    | (with_reducible exact ih1 _ _ _ _ _ _ _ _ _ _ _)
    | (with_reducible exact ih2 _ _ _ _ _ _ _ _ _ _ _ _ _ _)
    | (with_reducible exact ih3 _ _ _ _ _ _ _ _ _ _ _ _ _ _)
    | (with_reducible exact meter_Beats.mono _ _ _ _)
    | (with_reducible exact meter_Cut.mono _ _ _ _ _ _ _ _)
    | (with_reducible exact meter_Weight.mono _ _ _ _ _ _)
    | (with_reducible exact partitalaw05_Meter.mono _ _ _ _ _)
    | (with_reducible exact partitalaw05_awake.mono _)
    | (with_reducible exact partitalaw05_place.mono _ _ _ _ _ _)
    | (with_reducible exact partitaref01_Of.mono _ _ _)
    | (with_reducible exact LeO.refl _)
    | (with_reducible exact LeO.none _)
    | (with_reducible refine LeO.ite ?_ ?_)
    | (with_reducible refine LeO.bind ?_ (fun _ => ?_))
    | exact ih0 _ _ _ _ _ _ _ _ _ _ _
    | exact ih1 _ _ _ _ _ _ _ _ _ _ _
    | exact ih2 _ _ _ _ _ _ _ _ _ _ _ _ _ _
    | exact ih3 _ _ _ _ _ _ _ _ _ _ _ _ _ _
    | exact meter_Beats.mono _ _ _ _
    | exact meter_Cut.mono _ _ _ _ _ _ _ _
    | exact meter_Weight.mono _ _ _ _ _ _
    | exact partitalaw05_Meter.mono _ _ _ _ _
    | exact partitalaw05_awake.mono _
    | exact partitalaw05_place.mono _ _ _ _ _ _
    | exact partitaref01_Of.mono _ _ _
    | exact LeO.none _
    | refine LeO.ite ?_ ?_
    | refine LeO.bind ?_ (fun _ => ?_)
  · intro y0 y1 y2 y3 y4 y5 y6 y7 y8 y9 y10 y11 y12 y13
    unfold partitalaw05_MeterCut.l1
    repeat' first
    | (with_reducible exact ih0 _ _ _ _ _ _ _ _ _ _ _)
    | (with_reducible exact ih1 _ _ _ _ _ _ _ _ _ _ _)
    | (with_reducible exact ih2 _ _ _ _ _ _ _ _ _ _ _ _ _ _)
    | (with_reducible exact ih3 _ _ _ _ _ _ _ _ _ _ _ _ _ _)
    | (with_reducible exact meter_Beats.mono _ _ _ _)
    | (with_reducible exact meter_Cut.mono _ _ _ _ _ _ _ _)
    | (with_reducible exact meter_Weight.mono _ _ _ _ _ _)
    | (with_reducible exact partitalaw05_Meter.mono _ _ _ _ _)
    | (with_reducible exact partitalaw05_awake.mono _)
    | (with_reducible exact partitalaw05_place.mono _ _ _ _ _ _)
    | (with_reducible exact partitaref01_Of.mono _ _ _)
    | (with_reducible exact LeO.refl _)
    | (with_reducible exact LeO.none _)
    | (with_reducible refine LeO.ite ?_ ?_)
    | (with_reducible refine LeO.bind ?_ (fun _ => ?_))
    | exact ih0 _ _ _ _ _ _ _ _ _ _ _
    | exact ih1 _ _ _ _ _ _ _ _ _ _ _
    | exact ih2 _ _ _ _ _ _ _ _ _ _ _ _ _ _
    | exact ih3 _ _ _ _ _ _ _ _ _ _ _ _ _ _
    | exact meter_Beats.mono _ _ _ _
    | exact meter_Cut.mono _ _ _ _ _ _ _ _
    | exact meter_Weight.mono _ _ _ _ _ _
    | exact partitalaw05_Meter.mono _ _ _ _ _
    | exact partitalaw05_awake.mono _
    | exact partitalaw05_place.mono _ _ _ _ _ _
    | exact partitaref01_Of.mono _ _ _
    | exact LeO.none _
    | refine LeO.ite ?_ ?_
    | refine LeO.bind ?_ (fun _ => ?_)
theorem partitalaw05_MeterCut.mono : ∀ a0 a1 a2 a3 a4 a5 a6 k, LeO (partitalaw05_MeterCut.f k a0 a1 a2 a3 a4 a5 a6) (partitalaw05_MeterCut.f (k + 1) a0 a1 a2 a3 a4 a5 a6) := by
 intro a0 a1 a2 a3 a4 a5 a6 k
 obtain ⟨ih0, ih1, ih2, ih3⟩ := partitalaw05_MeterCut.mono_l k
 unfold partitalaw05_MeterCut.f
 repeat' first
  | (with_reducible exact ih0 _ _ _ _ _ _ _ _ _ _ _)
  | (with_reducible exact ih1 _ _ _ _ _ _ _ _ _ _ _)
  | (with_reducible exact ih2 _ _ _ _ _ _ _ _ _ _ _ _ _ _)
  | (with_reducible exact ih3 _ _ _ _ _ _ _ _ _ _ _ _ _ _)
  | (with_reducible exact meter_Beats.mono _ _ _ _)
  | (with_reducible exact meter_Cut.mono _ _ _ _ _ _ _ _)
  | (with_reducible exact meter_Weight.mono _ _ _ _ _ _)
  | (with_reducible exact partitalaw05_Meter.mono _ _ _ _ _)
  | (with_reducible exact partitalaw05_awake.mono _)
  | (with_reducible exact partitalaw05_place.mono _ _ _ _ _ _)
  | (with_reducible exact partitaref01_Of.mono _ _ _)
  | (with_reducible exact LeO.refl _)
  | (with_reducible exact LeO.none _)
  | (with_reducible refine LeO.ite ?_ ?_)
  | (with_reducible refine LeO.bind ?_ (fun _ => ?_))
  | exact ih0 _ _ _ _ _ _ _ _ _ _ _
  | exact ih1 _ _ _ _ _ _ _ _ _ _ _
  | exact ih2 _ _ _ _ _ _ _ _ _ _ _ _ _ _
  | exact ih3 _ _ _ _ _ _ _ _ _ _ _ _ _ _
  | exact meter_Beats.mono _ _ _ _
  | exact meter_Cut.mono _ _ _ _ _ _ _ _
  | exact meter_Weight.mono _ _ _ _ _ _
  | exact partitalaw05_Meter.mono _ _ _ _ _
  | exact partitalaw05_awake.mono _
  | exact partitalaw05_place.mono _ _ _ _ _ _
  | exact partitaref01_Of.mono _ _ _
  | exact LeO.none _
  | refine LeO.ite ?_ ?_
  | refine LeO.bind ?_ (fun _ => ?_)
def partitalaw05_MeterCut.T4 : Bool × List (List Nat × List Nat) := (true, [([], []), ([], []), ([1], [1]), ([], []), ([3], [3]), ([4], [4]), ([2, 5], [2, 5]), ([0, 6, 4], [0, 6]), ([7], [7]), ([], []), ([9], [9]), ([], []), ([11, 7], [11]), ([12], [12]), ([10, 13], [10, 13]), ([8, 14, 12], [8, 14]), ([15], [15]), ([16], [16]), ([16], [16]), ([], []), ([19, 17, 15, 0, 1, 2, 3, 4, 5, 6, 7, 8, 9, 10, 11, 12, 13, 14, 15, 16, 17, 19], [17, 19]), ([18, 20, 0, 1, 2, 3, 4, 5, 6, 7, 8, 9, 10, 11, 12, 13, 14, 15, 16, 17, 18, 19, 20], [18])])
def partitalaw05_MeterCut.B4 : List Nat := [0, 0, 2, 0, 8, 24, 62, 127, 255, 0, 512, 0, 2303, 6399, 16127, 32767, 65535, 131071, 131071, 0, 786431, 2097151]
theorem partitalaw05_MeterCut.tab4 : rtab .any (opsOf Try.f5 4) = partitalaw05_MeterCut.T4 := by kernel_rfl
theorem partitalaw05_MeterCut.bits4 : waitsOk partitalaw05_MeterCut.T4.2 partitalaw05_MeterCut.B4 = true := by kernel_rfl
def partitalaw05_MeterCut.T19 : Bool × List (List Nat × List Nat) := (true, [([], []), ([], []), ([], []), ([1, 2], [1, 2]), ([3], [3]), ([0, 4], [0, 4]), ([5], [5]), ([6], [6]), ([6], [6]), ([], []), ([9, 7, 5, 0, 1, 2, 3, 4, 5, 6, 7, 9], [7, 9]), ([8, 10, 0, 1, 2, 3, 4, 5, 6, 7, 8, 9, 10], [8])])
def partitalaw05_MeterCut.B19 : List Nat := [0, 0, 0, 6, 14, 31, 63, 127, 127, 0, 767, 2047]
theorem partitalaw05_MeterCut.tab19 : rtab .any (opsOf Try.f5 19) = partitalaw05_MeterCut.T19 := by kernel_rfl
theorem partitalaw05_MeterCut.bits19 : waitsOk partitalaw05_MeterCut.T19.2 partitalaw05_MeterCut.B19 = true := by kernel_rfl
def partitalaw05_MeterCut.T25 : Bool × List (List Nat × List Nat) := (true, [([], []), ([], []), ([0, 1], [0, 1]), ([2], [2]), ([], []), ([3, 4], [3, 4]), ([5], [5]), ([6, 5], [6]), ([7], [7]), ([7], [7]), ([8, 9, 7], [7, 8, 9]), ([10, 7], [7, 10]), ([7], [7]), ([11, 12, 7, 7], [7, 11, 12]), ([13, 7], [7, 13]), ([7, 14], [7, 14])])
def partitalaw05_MeterCut.B25 : List Nat := [0, 0, 3, 7, 0, 31, 63, 127, 255, 255, 1023, 2047, 255, 8191, 16383, 32767]
theorem partitalaw05_MeterCut.tab25 : rtab .any (opsOf Try.f5 25) = partitalaw05_MeterCut.T25 := by kernel_rfl
theorem partitalaw05_MeterCut.bits25 : waitsOk partitalaw05_MeterCut.T25.2 partitalaw05_MeterCut.B25 = true := by kernel_rfl
set_option maxHeartbeats 8000000 in
set_option maxRecDepth 100000 in
theorem partitalaw05_MeterCut.calls (k : Nat) (a0_0 : Int) (a0_1 : Int) (A0_2 : Option Addr) (c0_2 : Nat) (l0_2 : List Int) (a1 : Bool) (a2 : Int) (a3 : Int) (a4 : Int) (r : Bool) (w : World) (hr0_2 : Kd.C (Kd.int .i64) w A0_2 l0_2.length l0_2) (hc0_2 : l0_2.length ≤ c0_2) (h : partitalaw05_MeterCut.f k a0_0 a0_1 l0_2 a1 a2 a3 a4 = some r) :
 Calls Try.prog 5 #[.agg #[.int .i64 a0_0, .int .i64 a0_1, .slice A0_2 l0_2.length c0_2], .bool a1, .int .i64 a2, .int .i64 a3, .int .i64 a4] w fun e w' => e = .returned (.bool r) ∧ Below w.heap.size w w' := by
 have hu24 := Try.underlying24
 have hu26 := Try.underlying26
 have HR0_2 := Aside0.mk hr0_2
 have HC0_2 := Aside0.mk hc0_2
 clear hr0_2 hc0_2
 have HB := Aside0.mk (Below.refl w.heap.size w)
 have H : ((partitalaw05_awake.f k).bind fun t293 => ((partitalaw05_Meter.f k a0_0 a0_1 l0_2 a1).bind fun bt294 => ((partitalaw05_place.f k bt294.1 bt294.2.1 bt294.2.2 a2 a4).bind fun bt300 => ((partitalaw05_pick.f a4 12).bind fun t303 => ((partitalaw05_pick.f a3 (wrap64 (bt294.1 * (wrap64 (1 + t303))))).bind fun t304 => ((partitalaw05_pick.f a4 12).bind fun t305 => ((partitaref01_Of.f k (wrap64 (1 + t304)) (wrap64 (bt294.2.1 * (wrap64 (1 + t305))))).bind fun bt306 => ((ratio_Sub.f bt306.1 bt306.2.1 bt300.1 bt300.2).bind fun bt310 => (if bt310.2.2 = 0 then ((meter_Cut.f k bt294.1 bt294.2.1 bt294.2.2 bt300.1 bt300.2 bt310.1 bt310.2.1).bind fun bt314 => (if bt310.1 ≤ 0 then (if t293 = true then (if bt314.2 = 2 then (some ((bt314.1.length : Int) == 0)) else none) else none) else ((meter_Beats.f k bt294.1 bt294.2.1 bt294.2.2).bind fun bt318 => (if bt314.2 = 0 then (if bt318.2 = 0 then (partitalaw05_MeterCut.j0 k t293 bt314.1 bt318.1 ((bt314.1.length : Int) == 0) bt294.1 bt294.2.1 bt294.2.2 bt300.1 bt300.2 bt306.1 bt306.2.1) else (partitalaw05_MeterCut.j0 k t293 bt314.1 bt318.1 true bt294.1 bt294.2.1 bt294.2.2 bt300.1 bt300.2 bt306.1 bt306.2.1)) else (partitalaw05_MeterCut.j0 k t293 bt314.1 bt318.1 true bt294.1 bt294.2.1 bt294.2.2 bt300.1 bt300.2 bt306.1 bt306.2.1))))) else none))))))))) = some r := h
 clear h
 replace H := Option.bind_eq_some_iff.mp H
 obtain ⟨t293, A60, H⟩ := H
 replace H : ((partitalaw05_Meter.f k a0_0 a0_1 l0_2 a1).bind fun bt294 => ((partitalaw05_place.f k bt294.1 bt294.2.1 bt294.2.2 a2 a4).bind fun bt300 => ((partitalaw05_pick.f a4 12).bind fun t303 => ((partitalaw05_pick.f a3 (wrap64 (bt294.1 * (wrap64 (1 + t303))))).bind fun t304 => ((partitalaw05_pick.f a4 12).bind fun t305 => ((partitaref01_Of.f k (wrap64 (1 + t304)) (wrap64 (bt294.2.1 * (wrap64 (1 + t305))))).bind fun bt306 => ((ratio_Sub.f bt306.1 bt306.2.1 bt300.1 bt300.2).bind fun bt310 => (if bt310.2.2 = 0 then ((meter_Cut.f k bt294.1 bt294.2.1 bt294.2.2 bt300.1 bt300.2 bt310.1 bt310.2.1).bind fun bt314 => (if bt310.1 ≤ 0 then (if t293 = true then (if bt314.2 = 2 then (some ((bt314.1.length : Int) == 0)) else none) else none) else ((meter_Beats.f k bt294.1 bt294.2.1 bt294.2.2).bind fun bt318 => (if bt314.2 = 0 then (if bt318.2 = 0 then (partitalaw05_MeterCut.j0 k t293 bt314.1 bt318.1 ((bt314.1.length : Int) == 0) bt294.1 bt294.2.1 bt294.2.2 bt300.1 bt300.2 bt306.1 bt306.2.1) else (partitalaw05_MeterCut.j0 k t293 bt314.1 bt318.1 true bt294.1 bt294.2.1 bt294.2.2 bt300.1 bt300.2 bt306.1 bt306.2.1)) else (partitalaw05_MeterCut.j0 k t293 bt314.1 bt318.1 true bt294.1 bt294.2.1 bt294.2.2 bt300.1 bt300.2 bt306.1 bt306.2.1))))) else none)))))))) = some r := H
 have A6 := Aside0.mk A60
 clear A60
 replace H := Option.bind_eq_some_iff.mp H
 obtain ⟨⟨t294, t295, t296⟩, A70, H⟩ := H
 replace H : ((partitalaw05_place.f k t294 t295 t296 a2 a4).bind fun bt300 => ((partitalaw05_pick.f a4 12).bind fun t303 => ((partitalaw05_pick.f a3 (wrap64 (t294 * (wrap64 (1 + t303))))).bind fun t304 => ((partitalaw05_pick.f a4 12).bind fun t305 => ((partitaref01_Of.f k (wrap64 (1 + t304)) (wrap64 (t295 * (wrap64 (1 + t305))))).bind fun bt306 => ((ratio_Sub.f bt306.1 bt306.2.1 bt300.1 bt300.2).bind fun bt310 => (if bt310.2.2 = 0 then ((meter_Cut.f k t294 t295 t296 bt300.1 bt300.2 bt310.1 bt310.2.1).bind fun bt314 => (if bt310.1 ≤ 0 then (if t293 = true then (if bt314.2 = 2 then (some ((bt314.1.length : Int) == 0)) else none) else none) else ((meter_Beats.f k t294 t295 t296).bind fun bt318 => (if bt314.2 = 0 then (if bt318.2 = 0 then (partitalaw05_MeterCut.j0 k t293 bt314.1 bt318.1 ((bt314.1.length : Int) == 0) t294 t295 t296 bt300.1 bt300.2 bt306.1 bt306.2.1) else (partitalaw05_MeterCut.j0 k t293 bt314.1 bt318.1 true t294 t295 t296 bt300.1 bt300.2 bt306.1 bt306.2.1)) else (partitalaw05_MeterCut.j0 k t293 bt314.1 bt318.1 true t294 t295 t296 bt300.1 bt300.2 bt306.1 bt306.2.1))))) else none))))))) = some r := H
 have A7 := Aside0.mk A70
 clear A70
 replace H := Option.bind_eq_some_iff.mp H
 obtain ⟨⟨t300, t301⟩, A80, H⟩ := H
 replace H : ((partitalaw05_pick.f a4 12).bind fun t303 => ((partitalaw05_pick.f a3 (wrap64 (t294 * (wrap64 (1 + t303))))).bind fun t304 => ((partitalaw05_pick.f a4 12).bind fun t305 => ((partitaref01_Of.f k (wrap64 (1 + t304)) (wrap64 (t295 * (wrap64 (1 + t305))))).bind fun bt306 => ((ratio_Sub.f bt306.1 bt306.2.1 t300 t301).bind fun bt310 => (if bt310.2.2 = 0 then ((meter_Cut.f k t294 t295 t296 t300 t301 bt310.1 bt310.2.1).bind fun bt314 => (if bt310.1 ≤ 0 then (if t293 = true then (if bt314.2 = 2 then (some ((bt314.1.length : Int) == 0)) else none) else none) else ((meter_Beats.f k t294 t295 t296).bind fun bt318 => (if bt314.2 = 0 then (if bt318.2 = 0 then (partitalaw05_MeterCut.j0 k t293 bt314.1 bt318.1 ((bt314.1.length : Int) == 0) t294 t295 t296 t300 t301 bt306.1 bt306.2.1) else (partitalaw05_MeterCut.j0 k t293 bt314.1 bt318.1 true t294 t295 t296 t300 t301 bt306.1 bt306.2.1)) else (partitalaw05_MeterCut.j0 k t293 bt314.1 bt318.1 true t294 t295 t296 t300 t301 bt306.1 bt306.2.1))))) else none)))))) = some r := H
 have A8 := Aside0.mk A80
 clear A80
 replace H := Option.bind_eq_some_iff.mp H
 obtain ⟨t303, A90, H⟩ := H
 replace H : ((partitalaw05_pick.f a3 (wrap64 (t294 * (wrap64 (1 + t303))))).bind fun t304 => ((partitalaw05_pick.f a4 12).bind fun t305 => ((partitaref01_Of.f k (wrap64 (1 + t304)) (wrap64 (t295 * (wrap64 (1 + t305))))).bind fun bt306 => ((ratio_Sub.f bt306.1 bt306.2.1 t300 t301).bind fun bt310 => (if bt310.2.2 = 0 then ((meter_Cut.f k t294 t295 t296 t300 t301 bt310.1 bt310.2.1).bind fun bt314 => (if bt310.1 ≤ 0 then (if t293 = true then (if bt314.2 = 2 then (some ((bt314.1.length : Int) == 0)) else none) else none) else ((meter_Beats.f k t294 t295 t296).bind fun bt318 => (if bt314.2 = 0 then (if bt318.2 = 0 then (partitalaw05_MeterCut.j0 k t293 bt314.1 bt318.1 ((bt314.1.length : Int) == 0) t294 t295 t296 t300 t301 bt306.1 bt306.2.1) else (partitalaw05_MeterCut.j0 k t293 bt314.1 bt318.1 true t294 t295 t296 t300 t301 bt306.1 bt306.2.1)) else (partitalaw05_MeterCut.j0 k t293 bt314.1 bt318.1 true t294 t295 t296 t300 t301 bt306.1 bt306.2.1))))) else none))))) = some r := H
 have A9 := Aside0.mk A90
 clear A90
 replace H := Option.bind_eq_some_iff.mp H
 obtain ⟨t304, A100, H⟩ := H
 replace H : ((partitalaw05_pick.f a4 12).bind fun t305 => ((partitaref01_Of.f k (wrap64 (1 + t304)) (wrap64 (t295 * (wrap64 (1 + t305))))).bind fun bt306 => ((ratio_Sub.f bt306.1 bt306.2.1 t300 t301).bind fun bt310 => (if bt310.2.2 = 0 then ((meter_Cut.f k t294 t295 t296 t300 t301 bt310.1 bt310.2.1).bind fun bt314 => (if bt310.1 ≤ 0 then (if t293 = true then (if bt314.2 = 2 then (some ((bt314.1.length : Int) == 0)) else none) else none) else ((meter_Beats.f k t294 t295 t296).bind fun bt318 => (if bt314.2 = 0 then (if bt318.2 = 0 then (partitalaw05_MeterCut.j0 k t293 bt314.1 bt318.1 ((bt314.1.length : Int) == 0) t294 t295 t296 t300 t301 bt306.1 bt306.2.1) else (partitalaw05_MeterCut.j0 k t293 bt314.1 bt318.1 true t294 t295 t296 t300 t301 bt306.1 bt306.2.1)) else (partitalaw05_MeterCut.j0 k t293 bt314.1 bt318.1 true t294 t295 t296 t300 t301 bt306.1 bt306.2.1))))) else none)))) = some r := H
 have A10 := Aside0.mk A100
 clear A100
 replace H := Option.bind_eq_some_iff.mp H
 obtain ⟨t305, A110, H⟩ := H
 replace H : ((partitaref01_Of.f k (wrap64 (1 + t304)) (wrap64 (t295 * (wrap64 (1 + t305))))).bind fun bt306 => ((ratio_Sub.f bt306.1 bt306.2.1 t300 t301).bind fun bt310 => (if bt310.2.2 = 0 then ((meter_Cut.f k t294 t295 t296 t300 t301 bt310.1 bt310.2.1).bind fun bt314 => (if bt310.1 ≤ 0 then (if t293 = true then (if bt314.2 = 2 then (some ((bt314.1.length : Int) == 0)) else none) else none) else ((meter_Beats.f k t294 t295 t296).bind fun bt318 => (if bt314.2 = 0 then (if bt318.2 = 0 then (partitalaw05_MeterCut.j0 k t293 bt314.1 bt318.1 ((bt314.1.length : Int) == 0) t294 t295 t296 t300 t301 bt306.1 bt306.2.1) else (partitalaw05_MeterCut.j0 k t293 bt314.1 bt318.1 true t294 t295 t296 t300 t301 bt306.1 bt306.2.1)) else (partitalaw05_MeterCut.j0 k t293 bt314.1 bt318.1 true t294 t295 t296 t300 t301 bt306.1 bt306.2.1))))) else none))) = some r := H
 have A11 := Aside0.mk A110
 clear A110
 replace H := Option.bind_eq_some_iff.mp H
 obtain ⟨⟨t306, t307, t308⟩, A120, H⟩ := H
 replace H : ((ratio_Sub.f t306 t307 t300 t301).bind fun bt310 => (if bt310.2.2 = 0 then ((meter_Cut.f k t294 t295 t296 t300 t301 bt310.1 bt310.2.1).bind fun bt314 => (if bt310.1 ≤ 0 then (if t293 = true then (if bt314.2 = 2 then (some ((bt314.1.length : Int) == 0)) else none) else none) else ((meter_Beats.f k t294 t295 t296).bind fun bt318 => (if bt314.2 = 0 then (if bt318.2 = 0 then (partitalaw05_MeterCut.j0 k t293 bt314.1 bt318.1 ((bt314.1.length : Int) == 0) t294 t295 t296 t300 t301 t306 t307) else (partitalaw05_MeterCut.j0 k t293 bt314.1 bt318.1 true t294 t295 t296 t300 t301 t306 t307)) else (partitalaw05_MeterCut.j0 k t293 bt314.1 bt318.1 true t294 t295 t296 t300 t301 t306 t307))))) else none)) = some r := H
 have A12 := Aside0.mk A120
 clear A120
 replace H := Option.bind_eq_some_iff.mp H
 obtain ⟨⟨t310, t311, t312⟩, A130, H⟩ := H
 replace H : (if t312 = 0 then ((meter_Cut.f k t294 t295 t296 t300 t301 t310 t311).bind fun bt314 => (if t310 ≤ 0 then (if t293 = true then (if bt314.2 = 2 then (some ((bt314.1.length : Int) == 0)) else none) else none) else ((meter_Beats.f k t294 t295 t296).bind fun bt318 => (if bt314.2 = 0 then (if bt318.2 = 0 then (partitalaw05_MeterCut.j0 k t293 bt314.1 bt318.1 ((bt314.1.length : Int) == 0) t294 t295 t296 t300 t301 t306 t307) else (partitalaw05_MeterCut.j0 k t293 bt314.1 bt318.1 true t294 t295 t296 t300 t301 t306 t307)) else (partitalaw05_MeterCut.j0 k t293 bt314.1 bt318.1 true t294 t295 t296 t300 t301 t306 t307))))) else none) = some r := H
 have A13 := Aside0.mk A130
 clear A130
 by_cases c14 : t312 = 0
 · rw [if_pos c14] at H
   have c14b0 : (t312 == 0) = true := beq_iff_eq.mpr c14
   have c14b1 : (t312 != 0) = false := bne_eq_false_iff_eq.mpr c14
   clear c14
   replace H := Option.bind_eq_some_iff.mp H
   obtain ⟨⟨t314, t317⟩, A150, H⟩ := H
   replace H : (if t310 ≤ 0 then (if t293 = true then (if t317 = 2 then (some ((t314.length : Int) == 0)) else none) else none) else ((meter_Beats.f k t294 t295 t296).bind fun bt318 => (if t317 = 0 then (if bt318.2 = 0 then (partitalaw05_MeterCut.j0 k t293 t314 bt318.1 ((t314.length : Int) == 0) t294 t295 t296 t300 t301 t306 t307) else (partitalaw05_MeterCut.j0 k t293 t314 bt318.1 true t294 t295 t296 t300 t301 t306 t307)) else (partitalaw05_MeterCut.j0 k t293 t314 bt318.1 true t294 t295 t296 t300 t301 t306 t307)))) = some r := H
   have A15 := Aside0.mk A150
   clear A150
   have HHm := Aside0.mk H
   clear H
   go_enter Try.func5, Try.ntmps5
   try go_wp2_with (first | ((with_reducible refine gate_dst (N := 5) rfl ?_); (try (refine gate_guard (by rfl) ?_; dsimp only)); refine box_event ?hg (N := 5) ?hd (cs := #[.int .i64 a0_0, .int .i64 a0_1, .slice A0_2 l0_2.length c0_2]) (t := 24) ?hr ?_; (case hd => rfl); (case hg => rfl); (case hr => first | (go_simp; done) | (go_simp; rfl)); intro gb292 hg w130 hbox hb; have BK292 := Aside0.mk (hbox); have GW292 := qT HB hg; have GE292 := qS HB hg; replace HB := Aside0.mk (below_step (qW HB.out) hb); clear hb hbox hg) | ((with_reducible refine gate_callee (f := 10) rfl ?_); refine goesL_ (some 29) rfl rfl Try.func10 (by kernel_rfl) rfl #[] rfl (by (try simp only [List.map_toArray, List.map_cons, List.map_nil]); first | done | rfl | (simp only [List.length_drop, List.length_take]; rfl)) ?_; (with_reducible refine (partitalaw05_awake.calls k  t293 _ A6.out).mono ?_); rintro e w131 ⟨rfl, hb⟩; refine ⟨_, rfl, ?_⟩; replace BK292 := qD BK292 hb; replace HB := Aside0.mk (below_step (qW HB.out) hb); (try clear hb); (try clear hb2); (try clear hk); (try clear hi); have hcz132_0 := qC BK292 0 rfl; have hcz132_1 := qC BK292 1 rfl; have hcz132_2 := qC BK292 2 rfl; have hfz132_0 := blk_frozen BK292.out 0; have hfz132_1 := blk_frozen BK292.out 1; have hfz132_2 := blk_frozen BK292.out 2) | ((with_reducible refine gate_callee (f := 11) rfl ?_); refine goesL_ (some 32) rfl rfl Try.func11 (by kernel_rfl) rfl #[.agg #[.int .i64 a0_0, .int .i64 a0_1, .slice A0_2 l0_2.length c0_2], .bool a1] rfl (by (try simp only [List.map_toArray, List.map_cons, List.map_nil]); first | done | rfl | (simp only [List.length_drop, List.length_take]; rfl)) ?_; (with_reducible refine (partitalaw05_Meter.calls k a0_0 a0_1 _ _ l0_2 a1 t294 t295 t296 _ ?side1 ?side2 A7.out).mono ?_); (case side1 => repeat (first | exact (Kd.C_below HR0_2.out HB.out) | (with_reducible refine Kd.C_alloc ?_ _) | (with_reducible refine Kd.C_drewN ?_ _) | (with_reducible refine Kd.C_drew ?_))); (case side2 => exact HC0_2.out); rintro e w133 ⟨v297, rfl, ho0, hb⟩; refine ⟨_, rfl, ?_⟩; have HO298 := Aside0.mk (Kd.R_lower ho0 (below_size (qW HB.out))); replace BK292 := qD BK292 hb; replace HB := Aside0.mk (below_step (qW HB.out) hb); (try clear hb); (try clear hb2); (try clear hk); (try clear hi); (try clear ho0)) | ((with_reducible refine gate_dst (N := 12) rfl ?_); (try (refine gate_guard (by rfl) ?_; dsimp only)); refine box_event ?hg (N := 12) ?hd (cs := #[.int .i64 0, .int .i64 0, .slice none 0 0]) (t := 24) ?hr ?_; (case hd => rfl); (case hg => rfl); (case hr => first | (go_simp; done) | (go_simp; rfl)); intro gb299 hg w134 hbox hb; replace HO298 := qE HO298 hb; have BK299 := Aside0.mk (hbox); have GW299 := qT HB hg; have GE299 := qS HB hg; replace HB := Aside0.mk (below_step (qW HB.out) hb); have NB292_299 := qL BK292 hg; have NB299_292 := qM BK292 hg; replace BK292 := qD BK292 hb; clear hb hbox hg; have hnb135 := NB299_292.out; have hnc135 := NB292_299.out; have hcz136_0 := qC BK299 0 rfl; have hcz136_1 := qC BK299 1 rfl; have hcz136_2 := qC BK299 2 rfl; have hfz136_0 := blk_frozen BK299.out 0; have hfz136_1 := blk_frozen BK299.out 1; have hfz136_2 := blk_frozen BK299.out 2; obtain ⟨Ao137, co137, eo137⟩ := Kd.R_slice HO298.out; subst eo137) | ((with_reducible refine gate_callee (f := 21) rfl ?_); refine goesL_ (some 36) rfl rfl Try.func21 (by kernel_rfl) rfl #[.agg #[.int .i64 t294, .int .i64 t295, .slice Ao137 t296.length co137], .int .i64 a2, .int .i64 a4] rfl (by (try simp only [List.map_toArray, List.map_cons, List.map_nil]); first | done | rfl | (simp only [List.length_drop, List.length_take]; rfl)) ?_; (with_reducible refine (partitalaw05_place.calls k t294 t295 _ _ t296 a2 a4 t300 t301 _ ?side1 ?side2 A8.out).mono ?_); (case side1 => refine (Kd.R_reads' (e := 3) (base := w.heap.size) (ok := fun k_ => True) (n := t296.length) (c := co137) ?_).2.2; exact (qR ((Kd.R_mono (Kd.R_far (p := ⟨gb299, 2, none⟩) (Kd.R_far (p := ⟨gb299, 1, none⟩) (Kd.R_far (p := ⟨gb299, 0, none⟩) (Kd.R_types HO298.out BK299.out (by decide)) (fun _ hk => hk.2) (.int .i64 t294)) (fun _ hk => hk.2) (.int .i64 t295)) (fun _ hk => hk.2) (.slice Ao137 t296.length co137)) (fun _ h_ => h_.1))))); (case side2 => exact (Kd.R_reads' HO298.out).2.1); rintro e w138 ⟨rfl, hb⟩; refine ⟨_, rfl, ?_⟩; replace HO298 := Aside0.mk (Kd.R_below (qR ((Kd.R_mono (Kd.R_far (p := ⟨gb299, 2, none⟩) (Kd.R_far (p := ⟨gb299, 1, none⟩) (Kd.R_far (p := ⟨gb299, 0, none⟩) (Kd.R_types HO298.out BK299.out (by decide)) (fun _ hk => hk.2) (.int .i64 t294)) (fun _ hk => hk.2) (.int .i64 t295)) (fun _ hk => hk.2) (.slice Ao137 t296.length co137)) (fun _ h_ => h_.1)))) hb); replace BK292 := Aside0.mk (blk_below (g := gb292) (o := .cells #[.int .i64 a0_0, .int .i64 a0_1, .slice A0_2 l0_2.length c0_2] 24 (0, 0)) (by (with_reducible repeat (first | refine blk_drewN ?_ _ | refine blk_drew ?_ | refine blk_alloc ?_ _)); refine blk_far ?_ NB292_299.out _; (with_reducible repeat (first | refine blk_drewN ?_ _ | refine blk_drew ?_ | refine blk_alloc ?_ _)); refine blk_far ?_ NB292_299.out _; (with_reducible repeat (first | refine blk_drewN ?_ _ | refine blk_drew ?_ | refine blk_alloc ?_ _)); refine blk_far ?_ NB292_299.out _; (with_reducible repeat (first | refine blk_drewN ?_ _ | refine blk_drew ?_ | refine blk_alloc ?_ _)); exact BK292.out) hb); replace BK299 := Aside0.mk (blk_below (g := gb299) (o := .cells #[.int .i64 t294, .int .i64 t295, .slice Ao137 t296.length co137] 24 (0, 0)) (by (with_reducible repeat (first | refine blk_drewN ?_ _ | refine blk_drew ?_ | refine blk_alloc ?_ _)); refine blk_put (cs := #[.int .i64 t294, .int .i64 t295, .slice none 0 0]) ?_ 2 _ rfl; (with_reducible repeat (first | refine blk_drewN ?_ _ | refine blk_drew ?_ | refine blk_alloc ?_ _)); refine blk_put (cs := #[.int .i64 t294, .int .i64 0, .slice none 0 0]) ?_ 1 _ rfl; (with_reducible repeat (first | refine blk_drewN ?_ _ | refine blk_drew ?_ | refine blk_alloc ?_ _)); refine blk_put (cs := #[.int .i64 0, .int .i64 0, .slice none 0 0]) ?_ 0 _ rfl; (with_reducible repeat (first | refine blk_drewN ?_ _ | refine blk_drew ?_ | refine blk_alloc ?_ _)); exact BK299.out) hb); replace HB := Aside0.mk (below_step (qW HB.out) hb); (try clear hb); (try clear hb2); (try clear hk); (try clear hi)) | ((with_reducible refine gate_dst (N := 13) rfl ?_); (try (refine gate_guard (by rfl) ?_; dsimp only)); refine box_event ?hg (N := 13) ?hd (cs := #[.int .i64 0, .int .i64 0]) (t := 26) ?hr ?_; (case hd => rfl); (case hg => rfl); (case hr => first | (go_simp; done) | (go_simp; rfl)); intro gb302 hg w139 hbox hb; replace HO298 := qE HO298 hb; have BK302 := Aside0.mk (hbox); have GW302 := qT HB hg; have GE302 := qS HB hg; replace HB := Aside0.mk (below_step (qW HB.out) hb); have NB292_302 := qL BK292 hg; have NB302_292 := qM BK292 hg; replace BK292 := qD BK292 hb; have NB299_302 := qL BK299 hg; have NB302_299 := qM BK299 hg; replace BK299 := qD BK299 hb; clear hb hbox hg; have hnb140 := NB302_292.out; have hnc140 := NB292_302.out; have hnb141 := NB302_299.out; have hnc141 := NB299_302.out; have hcz142_0 := qC BK302 0 rfl; have hcz142_1 := qC BK302 1 rfl; have hfz142_0 := blk_frozen BK302.out 0; have hfz142_1 := blk_frozen BK302.out 1))
   have n0_ : Aside0 (Kd.R (Kd.int .i64) 3 ((w139.setCell ⟨gb302, 0, none⟩ (.int .i64 t300)).setCell ⟨gb302, 1, none⟩ (.int .i64 t301)) w.heap.size (fun _ => True) (.slice Ao137 t296.length co137) t296) := ⟨by (with_reducible repeat (first | apply Kd.R_alloc | apply Kd.R_drewN | apply Kd.R_drew)); exact Kd.R_mono (Kd.R_far (p := ⟨gb302, 1, none⟩) (Kd.R_far (p := ⟨gb302, 0, none⟩) (Kd.R_types HO298.out BK302.out (by decide)) (fun _ hk => hk.2) (.int .i64 t300)) (fun _ hk => hk.2) (.int .i64 t301)) (fun _ hk => trivial)⟩
   have n1_ : Aside0 (((w139.setCell ⟨gb302, 0, none⟩ (.int .i64 t300)).setCell ⟨gb302, 1, none⟩ (.int .i64 t301)).heap[gb292]? = some (.cells #[.int .i64 a0_0, .int .i64 a0_1, .slice A0_2 l0_2.length c0_2] 24 (0, 0))) := ⟨by (with_reducible repeat (first | refine blk_drewN ?_ _ | refine blk_drew ?_ | refine blk_alloc ?_ _)); refine blk_far ?_ NB292_302.out _; (with_reducible repeat (first | refine blk_drewN ?_ _ | refine blk_drew ?_ | refine blk_alloc ?_ _)); refine blk_far ?_ NB292_302.out _; (with_reducible repeat (first | refine blk_drewN ?_ _ | refine blk_drew ?_ | refine blk_alloc ?_ _)); exact BK292.out⟩
   have n2_ : Aside0 (((w139.setCell ⟨gb302, 0, none⟩ (.int .i64 t300)).setCell ⟨gb302, 1, none⟩ (.int .i64 t301)).heap[gb299]? = some (.cells #[.int .i64 t294, .int .i64 t295, .slice Ao137 t296.length co137] 24 (0, 0))) := ⟨by (with_reducible repeat (first | refine blk_drewN ?_ _ | refine blk_drew ?_ | refine blk_alloc ?_ _)); refine blk_far ?_ NB299_302.out _; (with_reducible repeat (first | refine blk_drewN ?_ _ | refine blk_drew ?_ | refine blk_alloc ?_ _)); refine blk_far ?_ NB299_302.out _; (with_reducible repeat (first | refine blk_drewN ?_ _ | refine blk_drew ?_ | refine blk_alloc ?_ _)); exact BK299.out⟩
   have n3_ : Aside0 (((w139.setCell ⟨gb302, 0, none⟩ (.int .i64 t300)).setCell ⟨gb302, 1, none⟩ (.int .i64 t301)).heap[gb302]? = some (.cells #[.int .i64 t300, .int .i64 t301] 26 (0, 0))) := ⟨by (with_reducible repeat (first | refine blk_drewN ?_ _ | refine blk_drew ?_ | refine blk_alloc ?_ _)); refine blk_put (cs := #[.int .i64 t300, .int .i64 0]) ?_ 1 _ rfl; (with_reducible repeat (first | refine blk_drewN ?_ _ | refine blk_drew ?_ | refine blk_alloc ?_ _)); refine blk_put (cs := #[.int .i64 0, .int .i64 0]) ?_ 0 _ rfl; (with_reducible repeat (first | refine blk_drewN ?_ _ | refine blk_drew ?_ | refine blk_alloc ?_ _)); exact BK302.out⟩
   have n4_ : Aside0 (Below w.heap.size w ((w139.setCell ⟨gb302, 0, none⟩ (.int .i64 t300)).setCell ⟨gb302, 1, none⟩ (.int .i64 t301))) := ⟨by exact qW HB.out⟩
   (try clear HO298)
   (try clear BK292)
   (try clear BK299)
   (try clear BK302)
   (try clear HB)
   generalize ((w139.setCell ⟨gb302, 0, none⟩ (.int .i64 t300)).setCell ⟨gb302, 1, none⟩ (.int .i64 t301)) = w143 at n0_ n1_ n2_ n3_ n4_ ⊢
   have HO298 := n0_
   have BK292 := n1_
   have BK299 := n2_
   have BK302 := n3_
   have HB := n4_
   clear n0_ n1_ n2_ n3_ n4_
   replace HO298 := Aside0.mk (Kd.R_drew HO298.out)
   replace BK292 := Aside0.mk (blk_drew BK292.out)
   replace BK299 := Aside0.mk (blk_drew BK299.out)
   replace BK302 := Aside0.mk (blk_drew BK302.out)
   replace HB := Aside0.mk (below_drew1 HB.out)
   refine start_ (n := 22) (S := fun w' => w'.cell? ⟨gb299, 0, none⟩ = some (.int .i64 t294) ∧ w'.cell? ⟨gb299, 1, none⟩ = some (.int .i64 t295) ∧ w'.cell? ⟨gb299, 2, none⟩ = some (.slice Ao137 t296.length co137)) (ds := []) #[false, false, false, false, false, false, false, false, false, false, false, false, false, false, false, false, false, false, false, false, false, false] (by kernel_rfl) rfl rfl ⟨(blk_cell BK299.out 0).trans rfl, (blk_cell BK299.out 1).trans rfl, (blk_cell BK299.out 2).trans rfl⟩ (fun hHeld => ?_); refine with_tabW partitalaw05_MeterCut.tab4 partitalaw05_MeterCut.bits4 (fun HT_ HW_ => ?_)
   generalize w143.drew = w144 at HO298 BK292 BK299 BK302 HB hHeld ⊢
   refine pure_ (i := 0) (N := some 38) (v := ?_) (a' := ?_) #[true, false, false, false, false, false, false, false, false, false, false, false, false, false, false, false, false, false, false, false, false, false] rfl rfl (any_of HT_.out (by kernel_rfl)) (fun _ _ _ h => h) (Or.inl ⟨by rfl, ?_⟩) ?_ ?_
   rotate_left
   · intro w'
     go_simp
     with_reducible rfl
   rotate_left
   · simp only [Act.put, qa_, qz_, qs_, i64_w, i32_w]
     rfl
   refine pure_ (i := 1) (N := some 39) (v := ?_) (a' := ?_) #[true, true, false, false, false, false, false, false, false, false, false, false, false, false, false, false, false, false, false, false, false, false] rfl rfl (any_of HT_.out (by kernel_rfl)) (fun _ _ _ h => h) (Or.inl ⟨by rfl, ?_⟩) ?_ ?_
   rotate_left
   · intro w'
     go_simp
     with_reducible rfl
   rotate_left
   · simp only [Act.put, qa_, qz_, qs_, i64_w, i32_w]
     rfl
   refine pure_ (i := 3) (N := some 41) (v := ?_) (a' := ?_) #[true, true, false, true, false, false, false, false, false, false, false, false, false, false, false, false, false, false, false, false, false, false] rfl rfl (any_of HT_.out (by kernel_rfl)) (fun _ _ _ h => h) (Or.inl ⟨by rfl, ?_⟩) ?_ ?_
   rotate_left
   · intro w'
     go_simp
     with_reducible rfl
   rotate_left
   · simp only [Act.put, qa_, qz_, qs_, i64_w, i32_w]
     rfl
   refine pure_ (i := 9) (N := some 47) (v := ?_) (a' := ?_) #[true, true, false, true, false, false, false, false, false, true, false, false, false, false, false, false, false, false, false, false, false, false] rfl rfl (any_of HT_.out (by kernel_rfl)) (fun _ _ _ h => h) (Or.inl ⟨by rfl, ?_⟩) ?_ ?_
   rotate_left
   · intro w'
     go_simp
     with_reducible rfl
   rotate_left
   · simp only [Act.put, qa_, qz_, qs_, i64_w, i32_w]
     rfl
   refine pure_ (i := 11) (N := some 49) (v := ?_) (a' := ?_) #[true, true, false, true, false, false, false, false, false, true, false, true, false, false, false, false, false, false, false, false, false, false] rfl rfl (any_of HT_.out (by kernel_rfl)) (fun _ _ _ h => h) (Or.inl ⟨by rfl, ?_⟩) ?_ ?_
   rotate_left
   · intro w'
     go_simp
     with_reducible rfl
   rotate_left
   · simp only [Act.put, qa_, qz_, qs_, i64_w, i32_w]
     rfl
   refine take_ (i := 2) (N := some 40) (v := ?_) (a' := ?_) #[true, true, true, true, false, false, false, false, false, true, false, true, false, false, false, false, false, false, false, false, false, false] rfl rfl (take_ofW HT_.out HW_.out (by kernel_rfl)) (fun _ _ _ h => h) (Or.inl ⟨by rfl, ?_⟩) hHeld ?_ ?_
   rotate_left
   · rintro w' ⟨s0, s1, s2⟩
     go_simp
     with_reducible rfl
   rotate_left
   · simp only [Act.put, qa_, qz_, qs_, i64_w, i32_w]
     rfl
   refine take_ (i := 10) (N := some 48) (v := ?_) (a' := ?_) #[true, true, true, true, false, false, false, false, false, true, true, true, false, false, false, false, false, false, false, false, false, false] rfl rfl (take_ofW HT_.out HW_.out (by kernel_rfl)) (fun _ _ _ h => h) (Or.inl ⟨by rfl, ?_⟩) hHeld ?_ ?_
   rotate_left
   · rintro w' ⟨s0, s1, s2⟩
     go_simp
     with_reducible rfl
   rotate_left
   · simp only [Act.put, qa_, qz_, qs_, i64_w, i32_w]
     rfl
   refine join_ (σ := Nat) 2 #[true, true, true, true, true, true, true, true, true, true, true, true, true, true, true, true, true, true, true, true, false, false] (fun s_ => [(42, .int .i64 t303), (45, .int .i64 t304), (50, .int .i64 t305), (53, .tuple #[.agg #[.int .i64 t306, .int .i64 t307], .int .i64 t308]), (14, .pointer (some ⟨s_, 0, none⟩)), (43, .int .i64 (wrap64 (1 + t303))), (44, .int .i64 (wrap64 (t294 * (wrap64 (1 + t303))))), (46, .int .i64 (wrap64 (1 + t304))), (51, .int .i64 (wrap64 (1 + t305))), (52, .int .i64 (wrap64 (t295 * (wrap64 (1 + t305))))), (37, .tuple #[.agg #[.int .i64 t306, .int .i64 t307], .int .i64 t308]), (54, .agg #[.int .i64 t306, .int .i64 t307]), (55, .int .i64 t308)]) (fun s_ w' => (w'.cell? ⟨gb299, 0, none⟩ = some (.int .i64 t294) ∧ w'.cell? ⟨gb299, 1, none⟩ = some (.int .i64 t295) ∧ w'.cell? ⟨gb299, 2, none⟩ = some (.slice Ao137 t296.length co137)) ∧ (Kd.R (Kd.int .i64) 3 w' w.heap.size (fun _ => True) (.slice Ao137 t296.length co137) t296) ∧ (w'.heap[gb292]? = some (.cells #[.int .i64 a0_0, .int .i64 a0_1, .slice A0_2 l0_2.length c0_2] 24 (0, 0))) ∧ (w'.heap[gb299]? = some (.cells #[.int .i64 t294, .int .i64 t295, .slice Ao137 t296.length co137] 24 (0, 0))) ∧ (w'.heap[gb302]? = some (.cells #[.int .i64 t300, .int .i64 t301] 26 (0, 0))) ∧ (w'.heap[s_]? = some (.cells #[.int .i64 0, .int .i64 0] 26 (0, 0))) ∧ (w.heap.size ≤ s_) ∧ (w.heap.size ≤ s_) ∧ (gb292 ≠ s_) ∧ (s_ ≠ gb292) ∧ (gb299 ≠ s_) ∧ (s_ ≠ gb299) ∧ (gb302 ≠ s_) ∧ (s_ ≠ gb302) ∧ (Below w.heap.size w w')) ?_ ?_
   rotate_left
   · intro hJ4_7_12_15_19
     refine join_ (σ := Unit) 3 #[true, true, true, true, true, true, true, true, true, true, true, true, true, true, true, true, true, true, true, false, false, false] (fun s_ => [(42, .int .i64 t303), (45, .int .i64 t304), (50, .int .i64 t305), (53, .tuple #[.agg #[.int .i64 t306, .int .i64 t307], .int .i64 t308]), (43, .int .i64 (wrap64 (1 + t303))), (44, .int .i64 (wrap64 (t294 * (wrap64 (1 + t303))))), (46, .int .i64 (wrap64 (1 + t304))), (51, .int .i64 (wrap64 (1 + t305))), (52, .int .i64 (wrap64 (t295 * (wrap64 (1 + t305))))), (37, .tuple #[.agg #[.int .i64 t306, .int .i64 t307], .int .i64 t308]), (54, .agg #[.int .i64 t306, .int .i64 t307]), (55, .int .i64 t308)]) (fun s_ w' => (w'.cell? ⟨gb299, 0, none⟩ = some (.int .i64 t294) ∧ w'.cell? ⟨gb299, 1, none⟩ = some (.int .i64 t295) ∧ w'.cell? ⟨gb299, 2, none⟩ = some (.slice Ao137 t296.length co137)) ∧ (Kd.R (Kd.int .i64) 3 w' w.heap.size (fun _ => True) (.slice Ao137 t296.length co137) t296) ∧ (w'.heap[gb292]? = some (.cells #[.int .i64 a0_0, .int .i64 a0_1, .slice A0_2 l0_2.length c0_2] 24 (0, 0))) ∧ (w'.heap[gb299]? = some (.cells #[.int .i64 t294, .int .i64 t295, .slice Ao137 t296.length co137] 24 (0, 0))) ∧ (w'.heap[gb302]? = some (.cells #[.int .i64 t300, .int .i64 t301] 26 (0, 0))) ∧ (Below w.heap.size w w')) ?_ ?_
     rotate_left
     · intro hJ4_7_12_15
       refine join_ (σ := Nat) 6 #[true, true, true, true, true, true, true, true, true, true, true, true, true, true, true, false, false, false, false, true, false, false] (fun s_ => [(42, .int .i64 t303), (45, .int .i64 t304), (50, .int .i64 t305), (14, .pointer (some ⟨s_, 0, none⟩)), (43, .int .i64 (wrap64 (1 + t303))), (44, .int .i64 (wrap64 (t294 * (wrap64 (1 + t303))))), (46, .int .i64 (wrap64 (1 + t304))), (51, .int .i64 (wrap64 (1 + t305))), (52, .int .i64 (wrap64 (t295 * (wrap64 (1 + t305)))))]) (fun s_ w' => (w'.cell? ⟨gb299, 0, none⟩ = some (.int .i64 t294) ∧ w'.cell? ⟨gb299, 1, none⟩ = some (.int .i64 t295) ∧ w'.cell? ⟨gb299, 2, none⟩ = some (.slice Ao137 t296.length co137)) ∧ (Kd.R (Kd.int .i64) 3 w' w.heap.size (fun _ => True) (.slice Ao137 t296.length co137) t296) ∧ (w'.heap[gb292]? = some (.cells #[.int .i64 a0_0, .int .i64 a0_1, .slice A0_2 l0_2.length c0_2] 24 (0, 0))) ∧ (w'.heap[gb299]? = some (.cells #[.int .i64 t294, .int .i64 t295, .slice Ao137 t296.length co137] 24 (0, 0))) ∧ (w'.heap[gb302]? = some (.cells #[.int .i64 t300, .int .i64 t301] 26 (0, 0))) ∧ (w'.heap[s_]? = some (.cells #[.int .i64 0, .int .i64 0] 26 (0, 0))) ∧ (w.heap.size ≤ s_) ∧ (w.heap.size ≤ s_) ∧ (gb292 ≠ s_) ∧ (s_ ≠ gb292) ∧ (gb299 ≠ s_) ∧ (s_ ≠ gb299) ∧ (gb302 ≠ s_) ∧ (s_ ≠ gb302) ∧ (Below w.heap.size w w')) ?_ ?_
       rotate_left
       · intro hJ4_7_12_19
         refine join_ (σ := Unit) 7 #[true, true, true, true, true, true, true, true, true, true, true, true, true, true, true, false, false, false, false, false, false, false] (fun s_ => [(42, .int .i64 t303), (45, .int .i64 t304), (50, .int .i64 t305), (43, .int .i64 (wrap64 (1 + t303))), (44, .int .i64 (wrap64 (t294 * (wrap64 (1 + t303))))), (46, .int .i64 (wrap64 (1 + t304))), (51, .int .i64 (wrap64 (1 + t305))), (52, .int .i64 (wrap64 (t295 * (wrap64 (1 + t305)))))]) (fun s_ w' => (w'.cell? ⟨gb299, 0, none⟩ = some (.int .i64 t294) ∧ w'.cell? ⟨gb299, 1, none⟩ = some (.int .i64 t295) ∧ w'.cell? ⟨gb299, 2, none⟩ = some (.slice Ao137 t296.length co137)) ∧ (Kd.R (Kd.int .i64) 3 w' w.heap.size (fun _ => True) (.slice Ao137 t296.length co137) t296) ∧ (w'.heap[gb292]? = some (.cells #[.int .i64 a0_0, .int .i64 a0_1, .slice A0_2 l0_2.length c0_2] 24 (0, 0))) ∧ (w'.heap[gb299]? = some (.cells #[.int .i64 t294, .int .i64 t295, .slice Ao137 t296.length co137] 24 (0, 0))) ∧ (w'.heap[gb302]? = some (.cells #[.int .i64 t300, .int .i64 t301] 26 (0, 0))) ∧ (Below w.heap.size w w')) ?_ ?_
         rotate_left
         · intro hJ4_7_12
           refine join_ (σ := Nat) 9 #[true, true, true, true, true, true, true, true, true, true, true, true, false, false, false, false, false, false, false, true, false, false] (fun s_ => [(42, .int .i64 t303), (45, .int .i64 t304), (14, .pointer (some ⟨s_, 0, none⟩)), (43, .int .i64 (wrap64 (1 + t303))), (44, .int .i64 (wrap64 (t294 * (wrap64 (1 + t303))))), (46, .int .i64 (wrap64 (1 + t304)))]) (fun s_ w' => (w'.cell? ⟨gb299, 0, none⟩ = some (.int .i64 t294) ∧ w'.cell? ⟨gb299, 1, none⟩ = some (.int .i64 t295) ∧ w'.cell? ⟨gb299, 2, none⟩ = some (.slice Ao137 t296.length co137)) ∧ (Kd.R (Kd.int .i64) 3 w' w.heap.size (fun _ => True) (.slice Ao137 t296.length co137) t296) ∧ (w'.heap[gb292]? = some (.cells #[.int .i64 a0_0, .int .i64 a0_1, .slice A0_2 l0_2.length c0_2] 24 (0, 0))) ∧ (w'.heap[gb299]? = some (.cells #[.int .i64 t294, .int .i64 t295, .slice Ao137 t296.length co137] 24 (0, 0))) ∧ (w'.heap[gb302]? = some (.cells #[.int .i64 t300, .int .i64 t301] 26 (0, 0))) ∧ (w'.heap[s_]? = some (.cells #[.int .i64 0, .int .i64 0] 26 (0, 0))) ∧ (w.heap.size ≤ s_) ∧ (w.heap.size ≤ s_) ∧ (gb292 ≠ s_) ∧ (s_ ≠ gb292) ∧ (gb299 ≠ s_) ∧ (s_ ≠ gb299) ∧ (gb302 ≠ s_) ∧ (s_ ≠ gb302) ∧ (Below w.heap.size w w')) ?_ ?_
           rotate_left
           · intro hJ4_7_19
             refine join_ (σ := Unit) 10 #[true, true, true, true, true, true, true, true, true, true, true, true, false, false, false, false, false, false, false, false, false, false] (fun s_ => [(42, .int .i64 t303), (45, .int .i64 t304), (43, .int .i64 (wrap64 (1 + t303))), (44, .int .i64 (wrap64 (t294 * (wrap64 (1 + t303))))), (46, .int .i64 (wrap64 (1 + t304)))]) (fun s_ w' => (w'.cell? ⟨gb299, 0, none⟩ = some (.int .i64 t294) ∧ w'.cell? ⟨gb299, 1, none⟩ = some (.int .i64 t295) ∧ w'.cell? ⟨gb299, 2, none⟩ = some (.slice Ao137 t296.length co137)) ∧ (Kd.R (Kd.int .i64) 3 w' w.heap.size (fun _ => True) (.slice Ao137 t296.length co137) t296) ∧ (w'.heap[gb292]? = some (.cells #[.int .i64 a0_0, .int .i64 a0_1, .slice A0_2 l0_2.length c0_2] 24 (0, 0))) ∧ (w'.heap[gb299]? = some (.cells #[.int .i64 t294, .int .i64 t295, .slice Ao137 t296.length co137] 24 (0, 0))) ∧ (w'.heap[gb302]? = some (.cells #[.int .i64 t300, .int .i64 t301] 26 (0, 0))) ∧ (Below w.heap.size w w')) ?_ ?_
             rotate_left
             · intro hJ4_7
               refine join_ (σ := Nat) 11 #[true, true, true, true, true, true, true, false, false, true, true, true, false, false, false, false, false, false, false, true, false, false] (fun s_ => [(42, .int .i64 t303), (14, .pointer (some ⟨s_, 0, none⟩)), (43, .int .i64 (wrap64 (1 + t303))), (44, .int .i64 (wrap64 (t294 * (wrap64 (1 + t303)))))]) (fun s_ w' => (w'.cell? ⟨gb299, 0, none⟩ = some (.int .i64 t294) ∧ w'.cell? ⟨gb299, 1, none⟩ = some (.int .i64 t295) ∧ w'.cell? ⟨gb299, 2, none⟩ = some (.slice Ao137 t296.length co137)) ∧ (Kd.R (Kd.int .i64) 3 w' w.heap.size (fun _ => True) (.slice Ao137 t296.length co137) t296) ∧ (w'.heap[gb292]? = some (.cells #[.int .i64 a0_0, .int .i64 a0_1, .slice A0_2 l0_2.length c0_2] 24 (0, 0))) ∧ (w'.heap[gb299]? = some (.cells #[.int .i64 t294, .int .i64 t295, .slice Ao137 t296.length co137] 24 (0, 0))) ∧ (w'.heap[gb302]? = some (.cells #[.int .i64 t300, .int .i64 t301] 26 (0, 0))) ∧ (w'.heap[s_]? = some (.cells #[.int .i64 0, .int .i64 0] 26 (0, 0))) ∧ (w.heap.size ≤ s_) ∧ (w.heap.size ≤ s_) ∧ (gb292 ≠ s_) ∧ (s_ ≠ gb292) ∧ (gb299 ≠ s_) ∧ (s_ ≠ gb299) ∧ (gb302 ≠ s_) ∧ (s_ ≠ gb302) ∧ (Below w.heap.size w w')) ?_ ?_
               rotate_left
               · intro hJ4_19
                 refine join_ (σ := Unit) 12 #[true, true, true, true, true, true, true, false, false, true, true, true, false, false, false, false, false, false, false, false, false, false] (fun s_ => [(42, .int .i64 t303), (43, .int .i64 (wrap64 (1 + t303))), (44, .int .i64 (wrap64 (t294 * (wrap64 (1 + t303)))))]) (fun s_ w' => (w'.cell? ⟨gb299, 0, none⟩ = some (.int .i64 t294) ∧ w'.cell? ⟨gb299, 1, none⟩ = some (.int .i64 t295) ∧ w'.cell? ⟨gb299, 2, none⟩ = some (.slice Ao137 t296.length co137)) ∧ (Kd.R (Kd.int .i64) 3 w' w.heap.size (fun _ => True) (.slice Ao137 t296.length co137) t296) ∧ (w'.heap[gb292]? = some (.cells #[.int .i64 a0_0, .int .i64 a0_1, .slice A0_2 l0_2.length c0_2] 24 (0, 0))) ∧ (w'.heap[gb299]? = some (.cells #[.int .i64 t294, .int .i64 t295, .slice Ao137 t296.length co137] 24 (0, 0))) ∧ (w'.heap[gb302]? = some (.cells #[.int .i64 t300, .int .i64 t301] 26 (0, 0))) ∧ (Below w.heap.size w w')) ?_ ?_
                 rotate_left
                 · intro hJ4
                   refine join_ (σ := Nat) 14 #[true, true, true, true, false, false, false, false, false, true, true, true, false, false, false, false, false, false, false, true, false, false] (fun s_ => [(14, .pointer (some ⟨s_, 0, none⟩))]) (fun s_ w' => (w'.cell? ⟨gb299, 0, none⟩ = some (.int .i64 t294) ∧ w'.cell? ⟨gb299, 1, none⟩ = some (.int .i64 t295) ∧ w'.cell? ⟨gb299, 2, none⟩ = some (.slice Ao137 t296.length co137)) ∧ (Kd.R (Kd.int .i64) 3 w' w.heap.size (fun _ => True) (.slice Ao137 t296.length co137) t296) ∧ (w'.heap[gb292]? = some (.cells #[.int .i64 a0_0, .int .i64 a0_1, .slice A0_2 l0_2.length c0_2] 24 (0, 0))) ∧ (w'.heap[gb299]? = some (.cells #[.int .i64 t294, .int .i64 t295, .slice Ao137 t296.length co137] 24 (0, 0))) ∧ (w'.heap[gb302]? = some (.cells #[.int .i64 t300, .int .i64 t301] 26 (0, 0))) ∧ (w'.heap[s_]? = some (.cells #[.int .i64 0, .int .i64 0] 26 (0, 0))) ∧ (w.heap.size ≤ s_) ∧ (w.heap.size ≤ s_) ∧ (gb292 ≠ s_) ∧ (s_ ≠ gb292) ∧ (gb299 ≠ s_) ∧ (s_ ≠ gb299) ∧ (gb302 ≠ s_) ∧ (s_ ≠ gb302) ∧ (Below w.heap.size w w')) ?_ ?_
                   rotate_left
                   · intro hJ19
                     refine two_ (i := 4) (j := 19) (Ni := some 42) (Nj := some 14) #[true, true, true, true, true, false, false, false, false, true, true, true, false, false, false, false, false, false, false, false, false, false] #[true, true, true, true, false, false, false, false, false, true, true, true, false, false, false, false, false, false, false, true, false, false] rfl rfl rfl rfl (two_of HT_.out (by kernel_rfl)) (by decide) (by decide) (fun K hK => ?_) (fun K hK => ?_)
                     · skip
                       refine goes_ Try.func28 (by kernel_rfl) rfl #[.int .i64 a4, .int .i64 12] (by rfl) rfl rfl (by (try simp only [List.map_toArray, List.map_cons, List.map_nil]); first | done | rfl | (simp only [List.length_drop, List.length_take]; rfl)) ?_
                       with_reducible refine (partitalaw05_pick.calls a4 12 t303 _ A9.out).mono ?_
                       rintro e w' ⟨rfl, ⟨nd, rfl⟩⟩
                       refine ⟨_, rfl, ?_⟩
                       refine hK.out _ _ ⟨(blk_cell BK299.out 0).trans rfl, (blk_cell BK299.out 1).trans rfl, (blk_cell BK299.out 2).trans rfl⟩ (fun hHeld => ?_)
                       clear hK K
                       refine norm_ (a' := ?_) ?_ ?_
                       rotate_left
                       · show Act.put _ (some 42) _ = _
                         simp only [Act.put, qa_, qz_, qs_, i64_w, i32_w]
                         rfl
                       refine pure_ (i := 5) (N := some 43) (v := ?_) (a' := ?_) #[true, true, true, true, true, true, false, false, false, true, true, true, false, false, false, false, false, false, false, false, false, false] rfl rfl (any_of HT_.out (by kernel_rfl)) (fun _ _ _ h => h) (Or.inl ⟨by rfl, ?_⟩) ?_ ?_
                       rotate_left
                       · intro w'
                         go_simp
                         with_reducible rfl
                       rotate_left
                       · simp only [Act.put, qa_, qz_, qs_, i64_w, i32_w]
                         rfl
                       refine pure_ (i := 6) (N := some 44) (v := ?_) (a' := ?_) #[true, true, true, true, true, true, true, false, false, true, true, true, false, false, false, false, false, false, false, false, false, false] rfl rfl (any_of HT_.out (by kernel_rfl)) (fun _ _ _ h => h) (Or.inl ⟨by rfl, ?_⟩) ?_ ?_
                       rotate_left
                       · intro w'
                         go_simp
                         with_reducible rfl
                       rotate_left
                       · simp only [Act.put, qa_, qz_, qs_, i64_w, i32_w]
                         rfl
                       exact norm_ (by first | (simp only [putAll, Act.put, qa_, qz_, qs_]; done) | (simp only [putAll, Act.put, qa_, qz_, qs_]; rfl)) (hJ4 () _ ⟨hHeld, (qR HO298.out), (qB BK292.out), (qB BK299.out), (qB BK302.out), (qW HB.out)⟩)
                     · skip
                       refine box_step ?hg (N := 14) ?hd (cs := #[.int .i64 0, .int .i64 0]) (t := 26) ?hr ?_; (case hd => rfl); (case hg => rfl); (case hr => first | (go_simp; done) | (go_simp; rfl))
                       intro gb309 hg w145 hbox hb
                       replace HO298 := qE HO298 hb
                       have BK309 := Aside0.mk (hbox)
                       have GW309 := qT HB hg
                       have GE309 := qS HB hg
                       replace HB := Aside0.mk (below_step (qW HB.out) hb)
                       have NB292_309 := qL BK292 hg
                       have NB309_292 := qM BK292 hg
                       replace BK292 := qD BK292 hb
                       have NB299_309 := qL BK299 hg
                       have NB309_299 := qM BK299 hg
                       replace BK299 := qD BK299 hb
                       have NB302_309 := qL BK302 hg
                       have NB309_302 := qM BK302 hg
                       replace BK302 := qD BK302 hb
                       clear hb hbox hg
                       refine hK.out _ _ ⟨(blk_cell BK299.out 0).trans rfl, (blk_cell BK299.out 1).trans rfl, (blk_cell BK299.out 2).trans rfl⟩ (fun hHeld => ?_)
                       clear hK K
                       refine norm_ (a' := ?_) ?_ ?_
                       rotate_left
                       · show Act.put _ (some 14) _ = _
                         simp only [Act.put, qa_, qz_, qs_, i64_w, i32_w]
                         rfl
                       exact norm_ (by first | (simp only [putAll, Act.put, qa_, qz_, qs_]; done) | (simp only [putAll, Act.put, qa_, qz_, qs_]; rfl)) (hJ19 (gb309) _ ⟨hHeld, (qR HO298.out), (qB BK292.out), (qB BK299.out), (qB BK302.out), (qB BK309.out), GW309.out, (GE309.elim id), NB292_309.out, NB309_292.out, NB299_309.out, NB309_299.out, NB302_309.out, NB309_302.out, (qW HB.out)⟩)
                   · skip
                     rintro gb309 w146 ⟨hS_, h0_, h1_, h2_, h3_, h4_, h5_, h6_, h7_, h8_, h9_, h10_, h11_, h12_, h13_⟩
                     replace HO298 : Aside0 (Kd.R (Kd.int .i64) 3 w146 w.heap.size (fun _ => True) (.slice Ao137 t296.length co137) t296) := ⟨h0_⟩
                     replace BK292 : Aside0 (w146.heap[gb292]? = some (.cells #[.int .i64 a0_0, .int .i64 a0_1, .slice A0_2 l0_2.length c0_2] 24 (0, 0))) := ⟨h1_⟩
                     replace BK299 : Aside0 (w146.heap[gb299]? = some (.cells #[.int .i64 t294, .int .i64 t295, .slice Ao137 t296.length co137] 24 (0, 0))) := ⟨h2_⟩
                     replace BK302 : Aside0 (w146.heap[gb302]? = some (.cells #[.int .i64 t300, .int .i64 t301] 26 (0, 0))) := ⟨h3_⟩
                     have BK309 : Aside0 (w146.heap[gb309]? = some (.cells #[.int .i64 0, .int .i64 0] 26 (0, 0))) := ⟨h4_⟩
                     have GW309 : Aside0 (w.heap.size ≤ gb309) := ⟨h5_⟩
                     have GE309 : Nonempty (w.heap.size ≤ gb309) := ⟨h6_⟩
                     have NB292_309 : Aside0 (gb292 ≠ gb309) := ⟨h7_⟩
                     have NB309_292 : Aside0 (gb309 ≠ gb292) := ⟨h8_⟩
                     have NB299_309 : Aside0 (gb299 ≠ gb309) := ⟨h9_⟩
                     have NB309_299 : Aside0 (gb309 ≠ gb299) := ⟨h10_⟩
                     have NB302_309 : Aside0 (gb302 ≠ gb309) := ⟨h11_⟩
                     have NB309_302 : Aside0 (gb309 ≠ gb302) := ⟨h12_⟩
                     replace HB : Aside0 (Below w.heap.size w w146) := ⟨h13_⟩
                     clear h0_ h1_ h2_ h3_ h4_ h5_ h6_ h7_ h8_ h9_ h10_ h11_ h12_ h13_
                     have hHeld : w146.cell? ⟨gb299, 0, none⟩ = some (.int .i64 t294) ∧ w146.cell? ⟨gb299, 1, none⟩ = some (.int .i64 t295) ∧ w146.cell? ⟨gb299, 2, none⟩ = some (.slice Ao137 t296.length co137) := hS_
                     refine norm_ (a' := ?_) ?_ ?_
                     rotate_left
                     · simp only [putAll, Act.put, qa_, qz_, qs_]
                       rfl
                     refine one_ (i := 4) (N := some 42) #[true, true, true, true, true, false, false, false, false, true, true, true, false, false, false, false, false, false, false, true, false, false] rfl rfl (one_of HT_.out (by kernel_rfl)) (by decide) (fun K hK => ?_)
                     refine goes_ Try.func28 (by kernel_rfl) rfl #[.int .i64 a4, .int .i64 12] (by rfl) rfl rfl (by (try simp only [List.map_toArray, List.map_cons, List.map_nil]); first | done | rfl | (simp only [List.length_drop, List.length_take]; rfl)) ?_
                     with_reducible refine (partitalaw05_pick.calls a4 12 t303 _ A9.out).mono ?_
                     rintro e w' ⟨rfl, ⟨nd, rfl⟩⟩
                     refine ⟨_, rfl, ?_⟩
                     refine hK.out _ _ ⟨(blk_cell BK299.out 0).trans rfl, (blk_cell BK299.out 1).trans rfl, (blk_cell BK299.out 2).trans rfl⟩ (fun hHeld => ?_)
                     clear hK K
                     refine norm_ (a' := ?_) ?_ ?_
                     rotate_left
                     · show Act.put _ (some 42) _ = _
                       simp only [Act.put, qa_, qz_, qs_, i64_w, i32_w]
                       rfl
                     refine pure_ (i := 5) (N := some 43) (v := ?_) (a' := ?_) #[true, true, true, true, true, true, false, false, false, true, true, true, false, false, false, false, false, false, false, true, false, false] rfl rfl (any_of HT_.out (by kernel_rfl)) (fun _ _ _ h => h) (Or.inl ⟨by rfl, ?_⟩) ?_ ?_
                     rotate_left
                     · intro w'
                       go_simp
                       with_reducible rfl
                     rotate_left
                     · simp only [Act.put, qa_, qz_, qs_, i64_w, i32_w]
                       rfl
                     refine pure_ (i := 6) (N := some 44) (v := ?_) (a' := ?_) #[true, true, true, true, true, true, true, false, false, true, true, true, false, false, false, false, false, false, false, true, false, false] rfl rfl (any_of HT_.out (by kernel_rfl)) (fun _ _ _ h => h) (Or.inl ⟨by rfl, ?_⟩) ?_ ?_
                     rotate_left
                     · intro w'
                       go_simp
                       with_reducible rfl
                     rotate_left
                     · simp only [Act.put, qa_, qz_, qs_, i64_w, i32_w]
                       rfl
                     exact norm_ (by first | (simp only [putAll, Act.put, qa_, qz_, qs_]; done) | (simp only [putAll, Act.put, qa_, qz_, qs_]; rfl)) (hJ4_19 (gb309) _ ⟨hHeld, (qR HO298.out), (qB BK292.out), (qB BK299.out), (qB BK302.out), (qB BK309.out), GW309.out, (GE309.elim id), NB292_309.out, NB309_292.out, NB299_309.out, NB309_299.out, NB302_309.out, NB309_302.out, (qW HB.out)⟩)
                 · skip
                   rintro _ w145 ⟨hS_, h0_, h1_, h2_, h3_, h4_⟩
                   replace HO298 : Aside0 (Kd.R (Kd.int .i64) 3 w145 w.heap.size (fun _ => True) (.slice Ao137 t296.length co137) t296) := ⟨h0_⟩
                   replace BK292 : Aside0 (w145.heap[gb292]? = some (.cells #[.int .i64 a0_0, .int .i64 a0_1, .slice A0_2 l0_2.length c0_2] 24 (0, 0))) := ⟨h1_⟩
                   replace BK299 : Aside0 (w145.heap[gb299]? = some (.cells #[.int .i64 t294, .int .i64 t295, .slice Ao137 t296.length co137] 24 (0, 0))) := ⟨h2_⟩
                   replace BK302 : Aside0 (w145.heap[gb302]? = some (.cells #[.int .i64 t300, .int .i64 t301] 26 (0, 0))) := ⟨h3_⟩
                   replace HB : Aside0 (Below w.heap.size w w145) := ⟨h4_⟩
                   clear h0_ h1_ h2_ h3_ h4_
                   have hHeld : w145.cell? ⟨gb299, 0, none⟩ = some (.int .i64 t294) ∧ w145.cell? ⟨gb299, 1, none⟩ = some (.int .i64 t295) ∧ w145.cell? ⟨gb299, 2, none⟩ = some (.slice Ao137 t296.length co137) := hS_
                   refine norm_ (a' := ?_) ?_ ?_
                   rotate_left
                   · simp only [putAll, Act.put, qa_, qz_, qs_]
                     rfl
                   refine two_ (i := 7) (j := 19) (Ni := some 45) (Nj := some 14) #[true, true, true, true, true, true, true, true, false, true, true, true, false, false, false, false, false, false, false, false, false, false] #[true, true, true, true, true, true, true, false, false, true, true, true, false, false, false, false, false, false, false, true, false, false] rfl rfl rfl rfl (two_of HT_.out (by kernel_rfl)) (by decide) (by decide) (fun K hK => ?_) (fun K hK => ?_)
                   · skip
                     refine goes_ Try.func28 (by kernel_rfl) rfl #[.int .i64 a3, .int .i64 (wrap64 (t294 * (wrap64 (1 + t303))))] (by rfl) rfl rfl (by (try simp only [List.map_toArray, List.map_cons, List.map_nil]); first | done | rfl | (simp only [List.length_drop, List.length_take]; rfl)) ?_
                     with_reducible refine (partitalaw05_pick.calls a3 (wrap64 (t294 * (wrap64 (1 + t303)))) t304 _ A10.out).mono ?_
                     rintro e w' ⟨rfl, ⟨nd, rfl⟩⟩
                     refine ⟨_, rfl, ?_⟩
                     refine hK.out _ _ ⟨(blk_cell BK299.out 0).trans rfl, (blk_cell BK299.out 1).trans rfl, (blk_cell BK299.out 2).trans rfl⟩ (fun hHeld => ?_)
                     clear hK K
                     refine norm_ (a' := ?_) ?_ ?_
                     rotate_left
                     · show Act.put _ (some 45) _ = _
                       simp only [Act.put, qa_, qz_, qs_, i64_w, i32_w]
                       rfl
                     refine pure_ (i := 8) (N := some 46) (v := ?_) (a' := ?_) #[true, true, true, true, true, true, true, true, true, true, true, true, false, false, false, false, false, false, false, false, false, false] rfl rfl (any_of HT_.out (by kernel_rfl)) (fun _ _ _ h => h) (Or.inl ⟨by rfl, ?_⟩) ?_ ?_
                     rotate_left
                     · intro w'
                       go_simp
                       with_reducible rfl
                     rotate_left
                     · simp only [Act.put, qa_, qz_, qs_, i64_w, i32_w]
                       rfl
                     exact norm_ (by first | (simp only [putAll, Act.put, qa_, qz_, qs_]; done) | (simp only [putAll, Act.put, qa_, qz_, qs_]; rfl)) (hJ4_7 () _ ⟨hHeld, (qR HO298.out), (qB BK292.out), (qB BK299.out), (qB BK302.out), (qW HB.out)⟩)
                   · skip
                     refine box_step ?hg (N := 14) ?hd (cs := #[.int .i64 0, .int .i64 0]) (t := 26) ?hr ?_; (case hd => rfl); (case hg => rfl); (case hr => first | (go_simp; done) | (go_simp; rfl))
                     intro gb309 hg w146 hbox hb
                     replace HO298 := qE HO298 hb
                     have BK309 := Aside0.mk (hbox)
                     have GW309 := qT HB hg
                     have GE309 := qS HB hg
                     replace HB := Aside0.mk (below_step (qW HB.out) hb)
                     have NB292_309 := qL BK292 hg
                     have NB309_292 := qM BK292 hg
                     replace BK292 := qD BK292 hb
                     have NB299_309 := qL BK299 hg
                     have NB309_299 := qM BK299 hg
                     replace BK299 := qD BK299 hb
                     have NB302_309 := qL BK302 hg
                     have NB309_302 := qM BK302 hg
                     replace BK302 := qD BK302 hb
                     clear hb hbox hg
                     refine hK.out _ _ ⟨(blk_cell BK299.out 0).trans rfl, (blk_cell BK299.out 1).trans rfl, (blk_cell BK299.out 2).trans rfl⟩ (fun hHeld => ?_)
                     clear hK K
                     refine norm_ (a' := ?_) ?_ ?_
                     rotate_left
                     · show Act.put _ (some 14) _ = _
                       simp only [Act.put, qa_, qz_, qs_, i64_w, i32_w]
                       rfl
                     exact norm_ (by first | (simp only [putAll, Act.put, qa_, qz_, qs_]; done) | (simp only [putAll, Act.put, qa_, qz_, qs_]; rfl)) (hJ4_19 (gb309) _ ⟨hHeld, (qR HO298.out), (qB BK292.out), (qB BK299.out), (qB BK302.out), (qB BK309.out), GW309.out, (GE309.elim id), NB292_309.out, NB309_292.out, NB299_309.out, NB309_299.out, NB302_309.out, NB309_302.out, (qW HB.out)⟩)
               · skip
                 rintro gb309 w146 ⟨hS_, h0_, h1_, h2_, h3_, h4_, h5_, h6_, h7_, h8_, h9_, h10_, h11_, h12_, h13_⟩
                 replace HO298 : Aside0 (Kd.R (Kd.int .i64) 3 w146 w.heap.size (fun _ => True) (.slice Ao137 t296.length co137) t296) := ⟨h0_⟩
                 replace BK292 : Aside0 (w146.heap[gb292]? = some (.cells #[.int .i64 a0_0, .int .i64 a0_1, .slice A0_2 l0_2.length c0_2] 24 (0, 0))) := ⟨h1_⟩
                 replace BK299 : Aside0 (w146.heap[gb299]? = some (.cells #[.int .i64 t294, .int .i64 t295, .slice Ao137 t296.length co137] 24 (0, 0))) := ⟨h2_⟩
                 replace BK302 : Aside0 (w146.heap[gb302]? = some (.cells #[.int .i64 t300, .int .i64 t301] 26 (0, 0))) := ⟨h3_⟩
                 have BK309 : Aside0 (w146.heap[gb309]? = some (.cells #[.int .i64 0, .int .i64 0] 26 (0, 0))) := ⟨h4_⟩
                 have GW309 : Aside0 (w.heap.size ≤ gb309) := ⟨h5_⟩
                 have GE309 : Nonempty (w.heap.size ≤ gb309) := ⟨h6_⟩
                 have NB292_309 : Aside0 (gb292 ≠ gb309) := ⟨h7_⟩
                 have NB309_292 : Aside0 (gb309 ≠ gb292) := ⟨h8_⟩
                 have NB299_309 : Aside0 (gb299 ≠ gb309) := ⟨h9_⟩
                 have NB309_299 : Aside0 (gb309 ≠ gb299) := ⟨h10_⟩
                 have NB302_309 : Aside0 (gb302 ≠ gb309) := ⟨h11_⟩
                 have NB309_302 : Aside0 (gb309 ≠ gb302) := ⟨h12_⟩
                 replace HB : Aside0 (Below w.heap.size w w146) := ⟨h13_⟩
                 clear h0_ h1_ h2_ h3_ h4_ h5_ h6_ h7_ h8_ h9_ h10_ h11_ h12_ h13_
                 have hHeld : w146.cell? ⟨gb299, 0, none⟩ = some (.int .i64 t294) ∧ w146.cell? ⟨gb299, 1, none⟩ = some (.int .i64 t295) ∧ w146.cell? ⟨gb299, 2, none⟩ = some (.slice Ao137 t296.length co137) := hS_
                 refine norm_ (a' := ?_) ?_ ?_
                 rotate_left
                 · simp only [putAll, Act.put, qa_, qz_, qs_]
                   rfl
                 refine one_ (i := 7) (N := some 45) #[true, true, true, true, true, true, true, true, false, true, true, true, false, false, false, false, false, false, false, true, false, false] rfl rfl (one_of HT_.out (by kernel_rfl)) (by decide) (fun K hK => ?_)
                 refine goes_ Try.func28 (by kernel_rfl) rfl #[.int .i64 a3, .int .i64 (wrap64 (t294 * (wrap64 (1 + t303))))] (by rfl) rfl rfl (by (try simp only [List.map_toArray, List.map_cons, List.map_nil]); first | done | rfl | (simp only [List.length_drop, List.length_take]; rfl)) ?_
                 with_reducible refine (partitalaw05_pick.calls a3 (wrap64 (t294 * (wrap64 (1 + t303)))) t304 _ A10.out).mono ?_
                 rintro e w' ⟨rfl, ⟨nd, rfl⟩⟩
                 refine ⟨_, rfl, ?_⟩
                 refine hK.out _ _ ⟨(blk_cell BK299.out 0).trans rfl, (blk_cell BK299.out 1).trans rfl, (blk_cell BK299.out 2).trans rfl⟩ (fun hHeld => ?_)
                 clear hK K
                 refine norm_ (a' := ?_) ?_ ?_
                 rotate_left
                 · show Act.put _ (some 45) _ = _
                   simp only [Act.put, qa_, qz_, qs_, i64_w, i32_w]
                   rfl
                 refine pure_ (i := 8) (N := some 46) (v := ?_) (a' := ?_) #[true, true, true, true, true, true, true, true, true, true, true, true, false, false, false, false, false, false, false, true, false, false] rfl rfl (any_of HT_.out (by kernel_rfl)) (fun _ _ _ h => h) (Or.inl ⟨by rfl, ?_⟩) ?_ ?_
                 rotate_left
                 · intro w'
                   go_simp
                   with_reducible rfl
                 rotate_left
                 · simp only [Act.put, qa_, qz_, qs_, i64_w, i32_w]
                   rfl
                 exact norm_ (by first | (simp only [putAll, Act.put, qa_, qz_, qs_]; done) | (simp only [putAll, Act.put, qa_, qz_, qs_]; rfl)) (hJ4_7_19 (gb309) _ ⟨hHeld, (qR HO298.out), (qB BK292.out), (qB BK299.out), (qB BK302.out), (qB BK309.out), GW309.out, (GE309.elim id), NB292_309.out, NB309_292.out, NB299_309.out, NB309_299.out, NB302_309.out, NB309_302.out, (qW HB.out)⟩)
             · skip
               rintro _ w145 ⟨hS_, h0_, h1_, h2_, h3_, h4_⟩
               replace HO298 : Aside0 (Kd.R (Kd.int .i64) 3 w145 w.heap.size (fun _ => True) (.slice Ao137 t296.length co137) t296) := ⟨h0_⟩
               replace BK292 : Aside0 (w145.heap[gb292]? = some (.cells #[.int .i64 a0_0, .int .i64 a0_1, .slice A0_2 l0_2.length c0_2] 24 (0, 0))) := ⟨h1_⟩
               replace BK299 : Aside0 (w145.heap[gb299]? = some (.cells #[.int .i64 t294, .int .i64 t295, .slice Ao137 t296.length co137] 24 (0, 0))) := ⟨h2_⟩
               replace BK302 : Aside0 (w145.heap[gb302]? = some (.cells #[.int .i64 t300, .int .i64 t301] 26 (0, 0))) := ⟨h3_⟩
               replace HB : Aside0 (Below w.heap.size w w145) := ⟨h4_⟩
               clear h0_ h1_ h2_ h3_ h4_
               have hHeld : w145.cell? ⟨gb299, 0, none⟩ = some (.int .i64 t294) ∧ w145.cell? ⟨gb299, 1, none⟩ = some (.int .i64 t295) ∧ w145.cell? ⟨gb299, 2, none⟩ = some (.slice Ao137 t296.length co137) := hS_
               refine norm_ (a' := ?_) ?_ ?_
               rotate_left
               · simp only [putAll, Act.put, qa_, qz_, qs_]
                 rfl
               refine two_ (i := 12) (j := 19) (Ni := some 50) (Nj := some 14) #[true, true, true, true, true, true, true, true, true, true, true, true, true, false, false, false, false, false, false, false, false, false] #[true, true, true, true, true, true, true, true, true, true, true, true, false, false, false, false, false, false, false, true, false, false] rfl rfl rfl rfl (two_of HT_.out (by kernel_rfl)) (by decide) (by decide) (fun K hK => ?_) (fun K hK => ?_)
               · skip
                 refine goes_ Try.func28 (by kernel_rfl) rfl #[.int .i64 a4, .int .i64 12] (by rfl) rfl rfl (by (try simp only [List.map_toArray, List.map_cons, List.map_nil]); first | done | rfl | (simp only [List.length_drop, List.length_take]; rfl)) ?_
                 with_reducible refine (partitalaw05_pick.calls a4 12 t305 _ A11.out).mono ?_
                 rintro e w' ⟨rfl, ⟨nd, rfl⟩⟩
                 refine ⟨_, rfl, ?_⟩
                 refine hK.out _ _ ⟨(blk_cell BK299.out 0).trans rfl, (blk_cell BK299.out 1).trans rfl, (blk_cell BK299.out 2).trans rfl⟩ (fun hHeld => ?_)
                 clear hK K
                 refine norm_ (a' := ?_) ?_ ?_
                 rotate_left
                 · show Act.put _ (some 50) _ = _
                   simp only [Act.put, qa_, qz_, qs_, i64_w, i32_w]
                   rfl
                 refine pure_ (i := 13) (N := some 51) (v := ?_) (a' := ?_) #[true, true, true, true, true, true, true, true, true, true, true, true, true, true, false, false, false, false, false, false, false, false] rfl rfl (any_of HT_.out (by kernel_rfl)) (fun _ _ _ h => h) (Or.inl ⟨by rfl, ?_⟩) ?_ ?_
                 rotate_left
                 · intro w'
                   go_simp
                   with_reducible rfl
                 rotate_left
                 · simp only [Act.put, qa_, qz_, qs_, i64_w, i32_w]
                   rfl
                 refine pure_ (i := 14) (N := some 52) (v := ?_) (a' := ?_) #[true, true, true, true, true, true, true, true, true, true, true, true, true, true, true, false, false, false, false, false, false, false] rfl rfl (any_of HT_.out (by kernel_rfl)) (fun _ _ _ h => h) (Or.inl ⟨by rfl, ?_⟩) ?_ ?_
                 rotate_left
                 · intro w'
                   go_simp
                   with_reducible rfl
                 rotate_left
                 · simp only [Act.put, qa_, qz_, qs_, i64_w, i32_w]
                   rfl
                 exact norm_ (by first | (simp only [putAll, Act.put, qa_, qz_, qs_]; done) | (simp only [putAll, Act.put, qa_, qz_, qs_]; rfl)) (hJ4_7_12 () _ ⟨hHeld, (qR HO298.out), (qB BK292.out), (qB BK299.out), (qB BK302.out), (qW HB.out)⟩)
               · skip
                 refine box_step ?hg (N := 14) ?hd (cs := #[.int .i64 0, .int .i64 0]) (t := 26) ?hr ?_; (case hd => rfl); (case hg => rfl); (case hr => first | (go_simp; done) | (go_simp; rfl))
                 intro gb309 hg w146 hbox hb
                 replace HO298 := qE HO298 hb
                 have BK309 := Aside0.mk (hbox)
                 have GW309 := qT HB hg
                 have GE309 := qS HB hg
                 replace HB := Aside0.mk (below_step (qW HB.out) hb)
                 have NB292_309 := qL BK292 hg
                 have NB309_292 := qM BK292 hg
                 replace BK292 := qD BK292 hb
                 have NB299_309 := qL BK299 hg
                 have NB309_299 := qM BK299 hg
                 replace BK299 := qD BK299 hb
                 have NB302_309 := qL BK302 hg
                 have NB309_302 := qM BK302 hg
                 replace BK302 := qD BK302 hb
                 clear hb hbox hg
                 refine hK.out _ _ ⟨(blk_cell BK299.out 0).trans rfl, (blk_cell BK299.out 1).trans rfl, (blk_cell BK299.out 2).trans rfl⟩ (fun hHeld => ?_)
                 clear hK K
                 refine norm_ (a' := ?_) ?_ ?_
                 rotate_left
                 · show Act.put _ (some 14) _ = _
                   simp only [Act.put, qa_, qz_, qs_, i64_w, i32_w]
                   rfl
                 exact norm_ (by first | (simp only [putAll, Act.put, qa_, qz_, qs_]; done) | (simp only [putAll, Act.put, qa_, qz_, qs_]; rfl)) (hJ4_7_19 (gb309) _ ⟨hHeld, (qR HO298.out), (qB BK292.out), (qB BK299.out), (qB BK302.out), (qB BK309.out), GW309.out, (GE309.elim id), NB292_309.out, NB309_292.out, NB299_309.out, NB309_299.out, NB302_309.out, NB309_302.out, (qW HB.out)⟩)
           · skip
             rintro gb309 w146 ⟨hS_, h0_, h1_, h2_, h3_, h4_, h5_, h6_, h7_, h8_, h9_, h10_, h11_, h12_, h13_⟩
             replace HO298 : Aside0 (Kd.R (Kd.int .i64) 3 w146 w.heap.size (fun _ => True) (.slice Ao137 t296.length co137) t296) := ⟨h0_⟩
             replace BK292 : Aside0 (w146.heap[gb292]? = some (.cells #[.int .i64 a0_0, .int .i64 a0_1, .slice A0_2 l0_2.length c0_2] 24 (0, 0))) := ⟨h1_⟩
             replace BK299 : Aside0 (w146.heap[gb299]? = some (.cells #[.int .i64 t294, .int .i64 t295, .slice Ao137 t296.length co137] 24 (0, 0))) := ⟨h2_⟩
             replace BK302 : Aside0 (w146.heap[gb302]? = some (.cells #[.int .i64 t300, .int .i64 t301] 26 (0, 0))) := ⟨h3_⟩
             have BK309 : Aside0 (w146.heap[gb309]? = some (.cells #[.int .i64 0, .int .i64 0] 26 (0, 0))) := ⟨h4_⟩
             have GW309 : Aside0 (w.heap.size ≤ gb309) := ⟨h5_⟩
             have GE309 : Nonempty (w.heap.size ≤ gb309) := ⟨h6_⟩
             have NB292_309 : Aside0 (gb292 ≠ gb309) := ⟨h7_⟩
             have NB309_292 : Aside0 (gb309 ≠ gb292) := ⟨h8_⟩
             have NB299_309 : Aside0 (gb299 ≠ gb309) := ⟨h9_⟩
             have NB309_299 : Aside0 (gb309 ≠ gb299) := ⟨h10_⟩
             have NB302_309 : Aside0 (gb302 ≠ gb309) := ⟨h11_⟩
             have NB309_302 : Aside0 (gb309 ≠ gb302) := ⟨h12_⟩
             replace HB : Aside0 (Below w.heap.size w w146) := ⟨h13_⟩
             clear h0_ h1_ h2_ h3_ h4_ h5_ h6_ h7_ h8_ h9_ h10_ h11_ h12_ h13_
             have hHeld : w146.cell? ⟨gb299, 0, none⟩ = some (.int .i64 t294) ∧ w146.cell? ⟨gb299, 1, none⟩ = some (.int .i64 t295) ∧ w146.cell? ⟨gb299, 2, none⟩ = some (.slice Ao137 t296.length co137) := hS_
             refine norm_ (a' := ?_) ?_ ?_
             rotate_left
             · simp only [putAll, Act.put, qa_, qz_, qs_]
               rfl
             refine one_ (i := 12) (N := some 50) #[true, true, true, true, true, true, true, true, true, true, true, true, true, false, false, false, false, false, false, true, false, false] rfl rfl (one_of HT_.out (by kernel_rfl)) (by decide) (fun K hK => ?_)
             refine goes_ Try.func28 (by kernel_rfl) rfl #[.int .i64 a4, .int .i64 12] (by rfl) rfl rfl (by (try simp only [List.map_toArray, List.map_cons, List.map_nil]); first | done | rfl | (simp only [List.length_drop, List.length_take]; rfl)) ?_
             with_reducible refine (partitalaw05_pick.calls a4 12 t305 _ A11.out).mono ?_
             rintro e w' ⟨rfl, ⟨nd, rfl⟩⟩
             refine ⟨_, rfl, ?_⟩
             refine hK.out _ _ ⟨(blk_cell BK299.out 0).trans rfl, (blk_cell BK299.out 1).trans rfl, (blk_cell BK299.out 2).trans rfl⟩ (fun hHeld => ?_)
             clear hK K
             refine norm_ (a' := ?_) ?_ ?_
             rotate_left
             · show Act.put _ (some 50) _ = _
               simp only [Act.put, qa_, qz_, qs_, i64_w, i32_w]
               rfl
             refine pure_ (i := 13) (N := some 51) (v := ?_) (a' := ?_) #[true, true, true, true, true, true, true, true, true, true, true, true, true, true, false, false, false, false, false, true, false, false] rfl rfl (any_of HT_.out (by kernel_rfl)) (fun _ _ _ h => h) (Or.inl ⟨by rfl, ?_⟩) ?_ ?_
             rotate_left
             · intro w'
               go_simp
               with_reducible rfl
             rotate_left
             · simp only [Act.put, qa_, qz_, qs_, i64_w, i32_w]
               rfl
             refine pure_ (i := 14) (N := some 52) (v := ?_) (a' := ?_) #[true, true, true, true, true, true, true, true, true, true, true, true, true, true, true, false, false, false, false, true, false, false] rfl rfl (any_of HT_.out (by kernel_rfl)) (fun _ _ _ h => h) (Or.inl ⟨by rfl, ?_⟩) ?_ ?_
             rotate_left
             · intro w'
               go_simp
               with_reducible rfl
             rotate_left
             · simp only [Act.put, qa_, qz_, qs_, i64_w, i32_w]
               rfl
             exact norm_ (by first | (simp only [putAll, Act.put, qa_, qz_, qs_]; done) | (simp only [putAll, Act.put, qa_, qz_, qs_]; rfl)) (hJ4_7_12_19 (gb309) _ ⟨hHeld, (qR HO298.out), (qB BK292.out), (qB BK299.out), (qB BK302.out), (qB BK309.out), GW309.out, (GE309.elim id), NB292_309.out, NB309_292.out, NB299_309.out, NB309_299.out, NB302_309.out, NB309_302.out, (qW HB.out)⟩)
         · skip
           rintro _ w145 ⟨hS_, h0_, h1_, h2_, h3_, h4_⟩
           replace HO298 : Aside0 (Kd.R (Kd.int .i64) 3 w145 w.heap.size (fun _ => True) (.slice Ao137 t296.length co137) t296) := ⟨h0_⟩
           replace BK292 : Aside0 (w145.heap[gb292]? = some (.cells #[.int .i64 a0_0, .int .i64 a0_1, .slice A0_2 l0_2.length c0_2] 24 (0, 0))) := ⟨h1_⟩
           replace BK299 : Aside0 (w145.heap[gb299]? = some (.cells #[.int .i64 t294, .int .i64 t295, .slice Ao137 t296.length co137] 24 (0, 0))) := ⟨h2_⟩
           replace BK302 : Aside0 (w145.heap[gb302]? = some (.cells #[.int .i64 t300, .int .i64 t301] 26 (0, 0))) := ⟨h3_⟩
           replace HB : Aside0 (Below w.heap.size w w145) := ⟨h4_⟩
           clear h0_ h1_ h2_ h3_ h4_
           have hHeld : w145.cell? ⟨gb299, 0, none⟩ = some (.int .i64 t294) ∧ w145.cell? ⟨gb299, 1, none⟩ = some (.int .i64 t295) ∧ w145.cell? ⟨gb299, 2, none⟩ = some (.slice Ao137 t296.length co137) := hS_
           refine norm_ (a' := ?_) ?_ ?_
           rotate_left
           · simp only [putAll, Act.put, qa_, qz_, qs_]
             rfl
           refine two_ (i := 15) (j := 19) (Ni := some 53) (Nj := some 14) #[true, true, true, true, true, true, true, true, true, true, true, true, true, true, true, true, false, false, false, false, false, false] #[true, true, true, true, true, true, true, true, true, true, true, true, true, true, true, false, false, false, false, true, false, false] rfl rfl rfl rfl (two_of HT_.out (by kernel_rfl)) (by decide) (by decide) (fun K hK => ?_) (fun K hK => ?_)
           · skip
             refine goes_ Try.func27 (by kernel_rfl) rfl #[.int .i64 (wrap64 (1 + t304)), .int .i64 (wrap64 (t295 * (wrap64 (1 + t305))))] (by rfl) rfl rfl (by (try simp only [List.map_toArray, List.map_cons, List.map_nil]); first | done | rfl | (simp only [List.length_drop, List.length_take]; rfl)) ?_
             with_reducible refine (partitaref01_Of.calls k (wrap64 (1 + t304)) (wrap64 (t295 * (wrap64 (1 + t305)))) t306 t307 t308 _ A12.out).mono ?_
             rintro e w146 ⟨rfl, hb⟩
             refine ⟨_, rfl, ?_⟩
             replace HO298 := qE HO298 hb
             replace BK292 := qD BK292 hb
             replace BK299 := qD BK299 hb
             replace BK302 := qD BK302 hb
             replace HB := Aside0.mk (below_step (qW HB.out) hb)
             (try clear hb)
             (try clear hb2)
             (try clear hk)
             (try clear hi)
             refine hK.out _ _ ⟨(blk_cell BK299.out 0).trans rfl, (blk_cell BK299.out 1).trans rfl, (blk_cell BK299.out 2).trans rfl⟩ (fun hHeld => ?_)
             clear hK K
             refine norm_ (a' := ?_) ?_ ?_
             rotate_left
             · show Act.put _ (some 53) _ = _
               simp only [Act.put, qa_, qz_, qs_, i64_w, i32_w]
               rfl
             refine pure_ (i := 16) (N := some 37) (v := ?_) (a' := ?_) #[true, true, true, true, true, true, true, true, true, true, true, true, true, true, true, true, true, false, false, false, false, false] rfl rfl (any_of HT_.out (by kernel_rfl)) (fun _ _ _ h => h) (Or.inl ⟨by rfl, ?_⟩) ?_ ?_
             rotate_left
             · intro w'
               go_simp
               with_reducible rfl
             rotate_left
             · simp only [Act.put, qa_, qz_, qs_, i64_w, i32_w]
               rfl
             refine pure_ (i := 17) (N := some 54) (v := ?_) (a' := ?_) #[true, true, true, true, true, true, true, true, true, true, true, true, true, true, true, true, true, true, false, false, false, false] rfl rfl (any_of HT_.out (by kernel_rfl)) (fun _ _ _ h => h) (Or.inl ⟨by rfl, ?_⟩) ?_ ?_
             rotate_left
             · intro w'
               go_simp
               with_reducible rfl
             rotate_left
             · simp only [Act.put, qa_, qz_, qs_, i64_w, i32_w]
               rfl
             refine pure_ (i := 18) (N := some 55) (v := ?_) (a' := ?_) #[true, true, true, true, true, true, true, true, true, true, true, true, true, true, true, true, true, true, true, false, false, false] rfl rfl (any_of HT_.out (by kernel_rfl)) (fun _ _ _ h => h) (Or.inl ⟨by rfl, ?_⟩) ?_ ?_
             rotate_left
             · intro w'
               go_simp
               with_reducible rfl
             rotate_left
             · simp only [Act.put, qa_, qz_, qs_, i64_w, i32_w]
               rfl
             exact norm_ (by first | (simp only [putAll, Act.put, qa_, qz_, qs_]; done) | (simp only [putAll, Act.put, qa_, qz_, qs_]; rfl)) (hJ4_7_12_15 () _ ⟨hHeld, (qR HO298.out), (qB BK292.out), (qB BK299.out), (qB BK302.out), (qW HB.out)⟩)
           · skip
             refine box_step ?hg (N := 14) ?hd (cs := #[.int .i64 0, .int .i64 0]) (t := 26) ?hr ?_; (case hd => rfl); (case hg => rfl); (case hr => first | (go_simp; done) | (go_simp; rfl))
             intro gb309 hg w146 hbox hb
             replace HO298 := qE HO298 hb
             have BK309 := Aside0.mk (hbox)
             have GW309 := qT HB hg
             have GE309 := qS HB hg
             replace HB := Aside0.mk (below_step (qW HB.out) hb)
             have NB292_309 := qL BK292 hg
             have NB309_292 := qM BK292 hg
             replace BK292 := qD BK292 hb
             have NB299_309 := qL BK299 hg
             have NB309_299 := qM BK299 hg
             replace BK299 := qD BK299 hb
             have NB302_309 := qL BK302 hg
             have NB309_302 := qM BK302 hg
             replace BK302 := qD BK302 hb
             clear hb hbox hg
             refine hK.out _ _ ⟨(blk_cell BK299.out 0).trans rfl, (blk_cell BK299.out 1).trans rfl, (blk_cell BK299.out 2).trans rfl⟩ (fun hHeld => ?_)
             clear hK K
             refine norm_ (a' := ?_) ?_ ?_
             rotate_left
             · show Act.put _ (some 14) _ = _
               simp only [Act.put, qa_, qz_, qs_, i64_w, i32_w]
               rfl
             exact norm_ (by first | (simp only [putAll, Act.put, qa_, qz_, qs_]; done) | (simp only [putAll, Act.put, qa_, qz_, qs_]; rfl)) (hJ4_7_12_19 (gb309) _ ⟨hHeld, (qR HO298.out), (qB BK292.out), (qB BK299.out), (qB BK302.out), (qB BK309.out), GW309.out, (GE309.elim id), NB292_309.out, NB309_292.out, NB299_309.out, NB309_299.out, NB302_309.out, NB309_302.out, (qW HB.out)⟩)
       · skip
         rintro gb309 w146 ⟨hS_, h0_, h1_, h2_, h3_, h4_, h5_, h6_, h7_, h8_, h9_, h10_, h11_, h12_, h13_⟩
         replace HO298 : Aside0 (Kd.R (Kd.int .i64) 3 w146 w.heap.size (fun _ => True) (.slice Ao137 t296.length co137) t296) := ⟨h0_⟩
         replace BK292 : Aside0 (w146.heap[gb292]? = some (.cells #[.int .i64 a0_0, .int .i64 a0_1, .slice A0_2 l0_2.length c0_2] 24 (0, 0))) := ⟨h1_⟩
         replace BK299 : Aside0 (w146.heap[gb299]? = some (.cells #[.int .i64 t294, .int .i64 t295, .slice Ao137 t296.length co137] 24 (0, 0))) := ⟨h2_⟩
         replace BK302 : Aside0 (w146.heap[gb302]? = some (.cells #[.int .i64 t300, .int .i64 t301] 26 (0, 0))) := ⟨h3_⟩
         have BK309 : Aside0 (w146.heap[gb309]? = some (.cells #[.int .i64 0, .int .i64 0] 26 (0, 0))) := ⟨h4_⟩
         have GW309 : Aside0 (w.heap.size ≤ gb309) := ⟨h5_⟩
         have GE309 : Nonempty (w.heap.size ≤ gb309) := ⟨h6_⟩
         have NB292_309 : Aside0 (gb292 ≠ gb309) := ⟨h7_⟩
         have NB309_292 : Aside0 (gb309 ≠ gb292) := ⟨h8_⟩
         have NB299_309 : Aside0 (gb299 ≠ gb309) := ⟨h9_⟩
         have NB309_299 : Aside0 (gb309 ≠ gb299) := ⟨h10_⟩
         have NB302_309 : Aside0 (gb302 ≠ gb309) := ⟨h11_⟩
         have NB309_302 : Aside0 (gb309 ≠ gb302) := ⟨h12_⟩
         replace HB : Aside0 (Below w.heap.size w w146) := ⟨h13_⟩
         clear h0_ h1_ h2_ h3_ h4_ h5_ h6_ h7_ h8_ h9_ h10_ h11_ h12_ h13_
         have hHeld : w146.cell? ⟨gb299, 0, none⟩ = some (.int .i64 t294) ∧ w146.cell? ⟨gb299, 1, none⟩ = some (.int .i64 t295) ∧ w146.cell? ⟨gb299, 2, none⟩ = some (.slice Ao137 t296.length co137) := hS_
         refine norm_ (a' := ?_) ?_ ?_
         rotate_left
         · simp only [putAll, Act.put, qa_, qz_, qs_]
           rfl
         refine one_ (i := 15) (N := some 53) #[true, true, true, true, true, true, true, true, true, true, true, true, true, true, true, true, false, false, false, true, false, false] rfl rfl (one_of HT_.out (by kernel_rfl)) (by decide) (fun K hK => ?_)
         refine goes_ Try.func27 (by kernel_rfl) rfl #[.int .i64 (wrap64 (1 + t304)), .int .i64 (wrap64 (t295 * (wrap64 (1 + t305))))] (by rfl) rfl rfl (by (try simp only [List.map_toArray, List.map_cons, List.map_nil]); first | done | rfl | (simp only [List.length_drop, List.length_take]; rfl)) ?_
         with_reducible refine (partitaref01_Of.calls k (wrap64 (1 + t304)) (wrap64 (t295 * (wrap64 (1 + t305)))) t306 t307 t308 _ A12.out).mono ?_
         rintro e w147 ⟨rfl, hb⟩
         refine ⟨_, rfl, ?_⟩
         replace HO298 := qE HO298 hb
         replace BK292 := qD BK292 hb
         replace BK299 := qD BK299 hb
         replace BK302 := qD BK302 hb
         replace BK309 := qD BK309 hb
         replace HB := Aside0.mk (below_step (qW HB.out) hb)
         (try clear hb)
         (try clear hb2)
         (try clear hk)
         (try clear hi)
         refine hK.out _ _ ⟨(blk_cell BK299.out 0).trans rfl, (blk_cell BK299.out 1).trans rfl, (blk_cell BK299.out 2).trans rfl⟩ (fun hHeld => ?_)
         clear hK K
         refine norm_ (a' := ?_) ?_ ?_
         rotate_left
         · show Act.put _ (some 53) _ = _
           simp only [Act.put, qa_, qz_, qs_, i64_w, i32_w]
           rfl
         refine pure_ (i := 16) (N := some 37) (v := ?_) (a' := ?_) #[true, true, true, true, true, true, true, true, true, true, true, true, true, true, true, true, true, false, false, true, false, false] rfl rfl (any_of HT_.out (by kernel_rfl)) (fun _ _ _ h => h) (Or.inl ⟨by rfl, ?_⟩) ?_ ?_
         rotate_left
         · intro w'
           go_simp
           with_reducible rfl
         rotate_left
         · simp only [Act.put, qa_, qz_, qs_, i64_w, i32_w]
           rfl
         refine pure_ (i := 17) (N := some 54) (v := ?_) (a' := ?_) #[true, true, true, true, true, true, true, true, true, true, true, true, true, true, true, true, true, true, false, true, false, false] rfl rfl (any_of HT_.out (by kernel_rfl)) (fun _ _ _ h => h) (Or.inl ⟨by rfl, ?_⟩) ?_ ?_
         rotate_left
         · intro w'
           go_simp
           with_reducible rfl
         rotate_left
         · simp only [Act.put, qa_, qz_, qs_, i64_w, i32_w]
           rfl
         refine pure_ (i := 18) (N := some 55) (v := ?_) (a' := ?_) #[true, true, true, true, true, true, true, true, true, true, true, true, true, true, true, true, true, true, true, true, false, false] rfl rfl (any_of HT_.out (by kernel_rfl)) (fun _ _ _ h => h) (Or.inl ⟨by rfl, ?_⟩) ?_ ?_
         rotate_left
         · intro w'
           go_simp
           with_reducible rfl
         rotate_left
         · simp only [Act.put, qa_, qz_, qs_, i64_w, i32_w]
           rfl
         exact norm_ (by first | (simp only [putAll, Act.put, qa_, qz_, qs_]; done) | (simp only [putAll, Act.put, qa_, qz_, qs_]; rfl)) (hJ4_7_12_15_19 (gb309) _ ⟨hHeld, (qR HO298.out), (qB BK292.out), (qB BK299.out), (qB BK302.out), (qB BK309.out), GW309.out, (GE309.elim id), NB292_309.out, NB309_292.out, NB299_309.out, NB309_299.out, NB302_309.out, NB309_302.out, (qW HB.out)⟩)
     · skip
       rintro _ w146 ⟨hS_, h0_, h1_, h2_, h3_, h4_⟩
       replace HO298 : Aside0 (Kd.R (Kd.int .i64) 3 w146 w.heap.size (fun _ => True) (.slice Ao137 t296.length co137) t296) := ⟨h0_⟩
       replace BK292 : Aside0 (w146.heap[gb292]? = some (.cells #[.int .i64 a0_0, .int .i64 a0_1, .slice A0_2 l0_2.length c0_2] 24 (0, 0))) := ⟨h1_⟩
       replace BK299 : Aside0 (w146.heap[gb299]? = some (.cells #[.int .i64 t294, .int .i64 t295, .slice Ao137 t296.length co137] 24 (0, 0))) := ⟨h2_⟩
       replace BK302 : Aside0 (w146.heap[gb302]? = some (.cells #[.int .i64 t300, .int .i64 t301] 26 (0, 0))) := ⟨h3_⟩
       replace HB : Aside0 (Below w.heap.size w w146) := ⟨h4_⟩
       clear h0_ h1_ h2_ h3_ h4_
       have hHeld : w146.cell? ⟨gb299, 0, none⟩ = some (.int .i64 t294) ∧ w146.cell? ⟨gb299, 1, none⟩ = some (.int .i64 t295) ∧ w146.cell? ⟨gb299, 2, none⟩ = some (.slice Ao137 t296.length co137) := hS_
       refine norm_ (a' := ?_) ?_ ?_
       rotate_left
       · simp only [putAll, Act.put, qa_, qz_, qs_]
         rfl
       refine one_ (i := 19) (N := some 14) #[true, true, true, true, true, true, true, true, true, true, true, true, true, true, true, true, true, true, true, true, false, false] rfl rfl (one_of HT_.out (by kernel_rfl)) (by decide) (fun K hK => ?_)
       refine box_step ?hg (N := 14) ?hd (cs := #[.int .i64 0, .int .i64 0]) (t := 26) ?hr ?_; (case hd => rfl); (case hg => rfl); (case hr => first | (go_simp; done) | (go_simp; rfl))
       intro gb309 hg w147 hbox hb
       replace HO298 := qE HO298 hb
       have BK309 := Aside0.mk (hbox)
       have GW309 := qT HB hg
       have GE309 := qS HB hg
       replace HB := Aside0.mk (below_step (qW HB.out) hb)
       have NB292_309 := qL BK292 hg
       have NB309_292 := qM BK292 hg
       replace BK292 := qD BK292 hb
       have NB299_309 := qL BK299 hg
       have NB309_299 := qM BK299 hg
       replace BK299 := qD BK299 hb
       have NB302_309 := qL BK302 hg
       have NB309_302 := qM BK302 hg
       replace BK302 := qD BK302 hb
       clear hb hbox hg
       refine hK.out _ _ ⟨(blk_cell BK299.out 0).trans rfl, (blk_cell BK299.out 1).trans rfl, (blk_cell BK299.out 2).trans rfl⟩ (fun hHeld => ?_)
       clear hK K
       refine norm_ (a' := ?_) ?_ ?_
       rotate_left
       · show Act.put _ (some 14) _ = _
         simp only [Act.put, qa_, qz_, qs_, i64_w, i32_w]
         rfl
       exact norm_ (by first | (simp only [putAll, Act.put, qa_, qz_, qs_]; done) | (simp only [putAll, Act.put, qa_, qz_, qs_]; rfl)) (hJ4_7_12_15_19 (gb309) _ ⟨hHeld, (qR HO298.out), (qB BK292.out), (qB BK299.out), (qB BK302.out), (qB BK309.out), GW309.out, (GE309.elim id), NB292_309.out, NB309_292.out, NB299_309.out, NB309_299.out, NB302_309.out, NB309_302.out, (qW HB.out)⟩)
   rintro gb309 w147 ⟨hS_, h0_, h1_, h2_, h3_, h4_, h5_, h6_, h7_, h8_, h9_, h10_, h11_, h12_, h13_⟩
   replace HO298 : Aside0 (Kd.R (Kd.int .i64) 3 w147 w.heap.size (fun _ => True) (.slice Ao137 t296.length co137) t296) := ⟨h0_⟩
   replace BK292 : Aside0 (w147.heap[gb292]? = some (.cells #[.int .i64 a0_0, .int .i64 a0_1, .slice A0_2 l0_2.length c0_2] 24 (0, 0))) := ⟨h1_⟩
   replace BK299 : Aside0 (w147.heap[gb299]? = some (.cells #[.int .i64 t294, .int .i64 t295, .slice Ao137 t296.length co137] 24 (0, 0))) := ⟨h2_⟩
   replace BK302 : Aside0 (w147.heap[gb302]? = some (.cells #[.int .i64 t300, .int .i64 t301] 26 (0, 0))) := ⟨h3_⟩
   have BK309 : Aside0 (w147.heap[gb309]? = some (.cells #[.int .i64 0, .int .i64 0] 26 (0, 0))) := ⟨h4_⟩
   have GW309 : Aside0 (w.heap.size ≤ gb309) := ⟨h5_⟩
   have GE309 : Nonempty (w.heap.size ≤ gb309) := ⟨h6_⟩
   have NB292_309 : Aside0 (gb292 ≠ gb309) := ⟨h7_⟩
   have NB309_292 : Aside0 (gb309 ≠ gb292) := ⟨h8_⟩
   have NB299_309 : Aside0 (gb299 ≠ gb309) := ⟨h9_⟩
   have NB309_299 : Aside0 (gb309 ≠ gb299) := ⟨h10_⟩
   have NB302_309 : Aside0 (gb302 ≠ gb309) := ⟨h11_⟩
   have NB309_302 : Aside0 (gb309 ≠ gb302) := ⟨h12_⟩
   replace HB : Aside0 (Below w.heap.size w w147) := ⟨h13_⟩
   clear h0_ h1_ h2_ h3_ h4_ h5_ h6_ h7_ h8_ h9_ h10_ h11_ h12_ h13_
   have hHeld : w147.cell? ⟨gb299, 0, none⟩ = some (.int .i64 t294) ∧ w147.cell? ⟨gb299, 1, none⟩ = some (.int .i64 t295) ∧ w147.cell? ⟨gb299, 2, none⟩ = some (.slice Ao137 t296.length co137) := hS_
   refine norm_ (a' := ?_) ?_ ?_
   rotate_left
   · simp only [putAll, Act.put, qa_, qz_, qs_]
     rfl
   refine one_ (i := 20) (N := none) #[true, true, true, true, true, true, true, true, true, true, true, true, true, true, true, true, true, true, true, true, true, false] rfl rfl (one_of HT_.out (by kernel_rfl)) (by decide) (fun K hK => ?_)
   have hs148 : w147.cell? ⟨gb309, 0, none⟩ = some (.int .i64 0) := (blk_cell BK309.out 0).trans rfl
   have hfs148 := blk_frozen BK309.out 0
   have hns148_0 := NB292_309.out
   have hns148_1 := NB299_309.out
   have hns148_2 := NB302_309.out
   have hms148_0 := NB309_292.out
   have hms148_1 := NB309_299.out
   have hms148_2 := NB309_302.out
   have hs149 : w147.cell? ⟨gb309, 1, none⟩ = some (.int .i64 0) := (blk_cell BK309.out 1).trans rfl
   have hfs149 := blk_frozen BK309.out 1
   have hns149_0 := NB292_309.out
   have hns149_1 := NB299_309.out
   have hns149_2 := NB302_309.out
   have hms149_0 := NB309_292.out
   have hms149_1 := NB309_299.out
   have hms149_2 := NB309_302.out
   refine skip_ (w1 := ?_) (by rfl) rfl ?_ ?_
   rotate_left
   · go_simp
     rfl
   refine hK.out _ _ ⟨((cell_far (p := ⟨gb309, _, none⟩) NB299_309.out _).trans (((cell_far (p := ⟨gb309, _, none⟩) NB299_309.out _).trans (hHeld.1)))), ((cell_far (p := ⟨gb309, _, none⟩) NB299_309.out _).trans (((cell_far (p := ⟨gb309, _, none⟩) NB299_309.out _).trans (hHeld.2.1)))), ((cell_far (p := ⟨gb309, _, none⟩) NB299_309.out _).trans (((cell_far (p := ⟨gb309, _, none⟩) NB299_309.out _).trans (hHeld.2.2))))⟩ (fun hHeld => ?_)
   clear hK K
   refine pure_ (i := 21) (N := some 15) (v := ?_) (a' := ?_) #[true, true, true, true, true, true, true, true, true, true, true, true, true, true, true, true, true, true, true, true, true, true] rfl rfl (any_of HT_.out (by kernel_rfl)) (fun _ _ _ h => h) (Or.inl ⟨by rfl, ?_⟩) ?_ ?_
   rotate_left
   · intro w'
     go_simp
     with_reducible rfl
   rotate_left
   · simp only [Act.put, qa_, qz_, qs_, i64_w, i32_w]
     rfl
   refine done_ (done_of HT_.out (by kernel_rfl)) ?_
   have hnb150 := NB309_292.out
   have hnc150 := NB292_309.out
   have hnb151 := NB309_299.out
   have hnc151 := NB299_309.out
   have hnb152 := NB309_302.out
   have hnc152 := NB302_309.out
   have hcz153_0 := qC BK309 0 rfl
   have hcz153_1 := qC BK309 1 rfl
   have hfz153_0 := blk_frozen BK309.out 0
   have hfz153_1 := blk_frozen BK309.out 1
   have hcz154_0 := qC BK302 0 rfl
   have hcz154_1 := qC BK302 1 rfl
   have hfz154_0 := blk_frozen BK302.out 0
   have hfz154_1 := blk_frozen BK302.out 1
   have H := HHm.out
   clear HHm
   by_cases c16 : t310 ≤ 0
   · rw [if_pos c16] at H
     have c16b0 : decide (t310 ≤ 0) = true := decide_eq_true c16
     clear c16
     by_cases c17 : t293 = true
     · subst c17
       have H1 : (if t317 = 2 then (some ((t314.length : Int) == 0)) else none) = some r := by rw [if_pos rfl] at H; exact H
       clear H
       have H := H1
       clear H1
       by_cases c18 : t317 = 2
       · rw [if_pos c18] at H
         have c18b0 : (t317 == 2) = true := beq_iff_eq.mpr c18
         have c18b1 : (t317 != 2) = false := bne_eq_false_iff_eq.mpr c18
         clear c18
         obtain rfl := Option.some.inj H
         try go_wp2_with (first | ((with_reducible refine gate_callee (f := 29) rfl ?_); refine goesL_ (some 59) rfl rfl Try.func29 (by kernel_rfl) rfl #[.agg #[.int .i64 t306, .int .i64 t307], .agg #[.int .i64 t300, .int .i64 t301]] rfl (by (try simp only [List.map_toArray, List.map_cons, List.map_nil]); first | done | rfl | (simp only [List.length_drop, List.length_take]; rfl)) ?_; (with_reducible refine (ratio_Sub.calls t306 t307 t300 t301 t310 t311 t312 _ A13.out).mono ?_); rintro e w44 ⟨rfl, hb⟩; refine ⟨_, rfl, ?_⟩; replace HO298 := Aside0.mk (Kd.R_below (qR ((Kd.R_mono (Kd.R_far (p := ⟨gb309, 1, none⟩) (Kd.R_far (p := ⟨gb309, 0, none⟩) (Kd.R_types HO298.out BK309.out (by decide)) (fun _ hk => hk.2) (.int .i64 t306)) (fun _ hk => hk.2) (.int .i64 t307)) (fun _ h_ => h_.1)))) hb); replace BK292 := Aside0.mk (blk_below (g := gb292) (o := .cells #[.int .i64 a0_0, .int .i64 a0_1, .slice A0_2 l0_2.length c0_2] 24 (0, 0)) (by (with_reducible repeat (first | refine blk_drewN ?_ _ | refine blk_drew ?_ | refine blk_alloc ?_ _)); refine blk_far ?_ NB292_309.out _; (with_reducible repeat (first | refine blk_drewN ?_ _ | refine blk_drew ?_ | refine blk_alloc ?_ _)); refine blk_far ?_ NB292_309.out _; (with_reducible repeat (first | refine blk_drewN ?_ _ | refine blk_drew ?_ | refine blk_alloc ?_ _)); exact BK292.out) hb); replace BK299 := Aside0.mk (blk_below (g := gb299) (o := .cells #[.int .i64 t294, .int .i64 t295, .slice Ao137 t296.length co137] 24 (0, 0)) (by (with_reducible repeat (first | refine blk_drewN ?_ _ | refine blk_drew ?_ | refine blk_alloc ?_ _)); refine blk_far ?_ NB299_309.out _; (with_reducible repeat (first | refine blk_drewN ?_ _ | refine blk_drew ?_ | refine blk_alloc ?_ _)); refine blk_far ?_ NB299_309.out _; (with_reducible repeat (first | refine blk_drewN ?_ _ | refine blk_drew ?_ | refine blk_alloc ?_ _)); exact BK299.out) hb); replace BK302 := Aside0.mk (blk_below (g := gb302) (o := .cells #[.int .i64 t300, .int .i64 t301] 26 (0, 0)) (by (with_reducible repeat (first | refine blk_drewN ?_ _ | refine blk_drew ?_ | refine blk_alloc ?_ _)); refine blk_far ?_ NB302_309.out _; (with_reducible repeat (first | refine blk_drewN ?_ _ | refine blk_drew ?_ | refine blk_alloc ?_ _)); refine blk_far ?_ NB302_309.out _; (with_reducible repeat (first | refine blk_drewN ?_ _ | refine blk_drew ?_ | refine blk_alloc ?_ _)); exact BK302.out) hb); replace BK309 := Aside0.mk (blk_below (g := gb309) (o := .cells #[.int .i64 t306, .int .i64 t307] 26 (0, 0)) (by (with_reducible repeat (first | refine blk_drewN ?_ _ | refine blk_drew ?_ | refine blk_alloc ?_ _)); refine blk_put (cs := #[.int .i64 t306, .int .i64 0]) ?_ 1 _ rfl; (with_reducible repeat (first | refine blk_drewN ?_ _ | refine blk_drew ?_ | refine blk_alloc ?_ _)); refine blk_put (cs := #[.int .i64 0, .int .i64 0]) ?_ 0 _ rfl; (with_reducible repeat (first | refine blk_drewN ?_ _ | refine blk_drew ?_ | refine blk_alloc ?_ _)); exact BK309.out) hb); replace HB := Aside0.mk (below_step (qW HB.out) hb); (try clear hb); (try clear hb2); (try clear hk); (try clear hi)) | ((with_reducible refine gate_dst (N := 16) rfl ?_); (try (refine gate_guard (by rfl) ?_; dsimp only)); refine box_event ?hg (N := 16) ?hd (cs := #[.int .i64 0, .int .i64 0]) (t := 26) ?hr ?_; (case hd => rfl); (case hg => rfl); (case hr => first | (go_simp; done) | (go_simp; rfl)); intro gb313 hg w45 hbox hb; replace HO298 := qE HO298 hb; have BK313 := Aside0.mk (hbox); have GW313 := qT HB hg; have GE313 := qS HB hg; replace HB := Aside0.mk (below_step (qW HB.out) hb); have NB292_313 := qL BK292 hg; have NB313_292 := qM BK292 hg; replace BK292 := qD BK292 hb; have NB299_313 := qL BK299 hg; have NB313_299 := qM BK299 hg; replace BK299 := qD BK299 hb; have NB302_313 := qL BK302 hg; have NB313_302 := qM BK302 hg; replace BK302 := qD BK302 hb; have NB309_313 := qL BK309 hg; have NB313_309 := qM BK309 hg; replace BK309 := qD BK309 hb; clear hb hbox hg; have hnb46 := NB313_292.out; have hnc46 := NB292_313.out; have hnb47 := NB313_299.out; have hnc47 := NB299_313.out; have hnb48 := NB313_302.out; have hnc48 := NB302_313.out; have hnb49 := NB313_309.out; have hnc49 := NB309_313.out; have hcz50_0 := qC BK313 0 rfl; have hcz50_1 := qC BK313 1 rfl; have hfz50_0 := blk_frozen BK313.out 0; have hfz50_1 := blk_frozen BK313.out 1; have hcz51_0 := qC BK299 0 rfl; have hcz51_1 := qC BK299 1 rfl; have hcz51_2 := qC BK299 2 rfl; have hfz51_0 := blk_frozen BK299.out 0; have hfz51_1 := blk_frozen BK299.out 1; have hfz51_2 := blk_frozen BK299.out 2; have hcz52_0 := qC BK302 0 rfl; have hcz52_1 := qC BK302 1 rfl; have hfz52_0 := blk_frozen BK302.out 0; have hfz52_1 := blk_frozen BK302.out 1) | ((with_reducible refine gate_callee (f := 24) rfl ?_); refine goesL_ (some 68) rfl rfl Try.func24 (by kernel_rfl) rfl #[.agg #[.int .i64 t294, .int .i64 t295, .slice Ao137 t296.length co137], .agg #[.int .i64 t300, .int .i64 t301], .agg #[.int .i64 t310, .int .i64 t311]] rfl (by (try simp only [List.map_toArray, List.map_cons, List.map_nil]); first | done | rfl | (simp only [List.length_drop, List.length_take]; rfl)) ?_; (with_reducible refine (meter_Cut.calls k t294 t295 _ _ t296 t300 t301 t310 t311 t314 t317 _ ?side1 ?side2 A15.out).mono ?_); (case side1 => refine (Kd.R_reads' (e := 3) (base := w.heap.size) (ok := fun k_ => True) (n := t296.length) (c := co137) ?_).2.2; exact (qR ((Kd.R_mono (Kd.R_far (p := ⟨gb313, 1, none⟩) (Kd.R_far (p := ⟨gb313, 0, none⟩) (Kd.R_types HO298.out BK313.out (by decide)) (fun _ hk => hk.2) (.int .i64 t310)) (fun _ hk => hk.2) (.int .i64 t311)) (fun _ h_ => h_.1))))); (case side2 => exact (Kd.R_reads' HO298.out).2.1); rintro e w53 ⟨v315, rfl, ho0, hb⟩; refine ⟨_, rfl, ?_⟩; replace HO298 := Aside0.mk (Kd.R_below (qR ((Kd.R_mono (Kd.R_far (p := ⟨gb313, 1, none⟩) (Kd.R_far (p := ⟨gb313, 0, none⟩) (Kd.R_types HO298.out BK313.out (by decide)) (fun _ hk => hk.2) (.int .i64 t310)) (fun _ hk => hk.2) (.int .i64 t311)) (fun _ h_ => h_.1)))) hb); have HO316 := Aside0.mk (Kd.R_lower (Kd.R_newB (Kd.R_newB (Kd.R_newB ho0 (g := gb302) (o := .cells #[.int .i64 t300, .int .i64 t301] 26 (0, 0)) (by (with_reducible repeat (first | refine blk_drewN ?_ _ | refine blk_drew ?_ | refine blk_alloc ?_ _)); refine blk_far ?_ NB302_313.out _; (with_reducible repeat (first | refine blk_drewN ?_ _ | refine blk_drew ?_ | refine blk_alloc ?_ _)); refine blk_far ?_ NB302_313.out _; (with_reducible repeat (first | refine blk_drewN ?_ _ | refine blk_drew ?_ | refine blk_alloc ?_ _)); exact BK302.out)) (g := gb309) (o := .cells #[.int .i64 t306, .int .i64 t307] 26 (0, 0)) (by (with_reducible repeat (first | refine blk_drewN ?_ _ | refine blk_drew ?_ | refine blk_alloc ?_ _)); refine blk_far ?_ NB309_313.out _; (with_reducible repeat (first | refine blk_drewN ?_ _ | refine blk_drew ?_ | refine blk_alloc ?_ _)); refine blk_far ?_ NB309_313.out _; (with_reducible repeat (first | refine blk_drewN ?_ _ | refine blk_drew ?_ | refine blk_alloc ?_ _)); exact BK309.out)) (g := gb313) (o := .cells #[.int .i64 t310, .int .i64 t311] 26 (0, 0)) (by (with_reducible repeat (first | refine blk_drewN ?_ _ | refine blk_drew ?_ | refine blk_alloc ?_ _)); refine blk_put (cs := #[.int .i64 t310, .int .i64 0]) ?_ 1 _ rfl; (with_reducible repeat (first | refine blk_drewN ?_ _ | refine blk_drew ?_ | refine blk_alloc ?_ _)); refine blk_put (cs := #[.int .i64 0, .int .i64 0]) ?_ 0 _ rfl; (with_reducible repeat (first | refine blk_drewN ?_ _ | refine blk_drew ?_ | refine blk_alloc ?_ _)); exact BK313.out)) (below_size (qW HB.out))); replace BK292 := Aside0.mk (blk_below (g := gb292) (o := .cells #[.int .i64 a0_0, .int .i64 a0_1, .slice A0_2 l0_2.length c0_2] 24 (0, 0)) (by (with_reducible repeat (first | refine blk_drewN ?_ _ | refine blk_drew ?_ | refine blk_alloc ?_ _)); refine blk_far ?_ NB292_313.out _; (with_reducible repeat (first | refine blk_drewN ?_ _ | refine blk_drew ?_ | refine blk_alloc ?_ _)); refine blk_far ?_ NB292_313.out _; (with_reducible repeat (first | refine blk_drewN ?_ _ | refine blk_drew ?_ | refine blk_alloc ?_ _)); exact BK292.out) hb); replace BK299 := Aside0.mk (blk_below (g := gb299) (o := .cells #[.int .i64 t294, .int .i64 t295, .slice Ao137 t296.length co137] 24 (0, 0)) (by (with_reducible repeat (first | refine blk_drewN ?_ _ | refine blk_drew ?_ | refine blk_alloc ?_ _)); refine blk_far ?_ NB299_313.out _; (with_reducible repeat (first | refine blk_drewN ?_ _ | refine blk_drew ?_ | refine blk_alloc ?_ _)); refine blk_far ?_ NB299_313.out _; (with_reducible repeat (first | refine blk_drewN ?_ _ | refine blk_drew ?_ | refine blk_alloc ?_ _)); exact BK299.out) hb); replace BK302 := Aside0.mk (blk_below (g := gb302) (o := .cells #[.int .i64 t300, .int .i64 t301] 26 (0, 0)) (by (with_reducible repeat (first | refine blk_drewN ?_ _ | refine blk_drew ?_ | refine blk_alloc ?_ _)); refine blk_far ?_ NB302_313.out _; (with_reducible repeat (first | refine blk_drewN ?_ _ | refine blk_drew ?_ | refine blk_alloc ?_ _)); refine blk_far ?_ NB302_313.out _; (with_reducible repeat (first | refine blk_drewN ?_ _ | refine blk_drew ?_ | refine blk_alloc ?_ _)); exact BK302.out) hb); replace BK309 := Aside0.mk (blk_below (g := gb309) (o := .cells #[.int .i64 t306, .int .i64 t307] 26 (0, 0)) (by (with_reducible repeat (first | refine blk_drewN ?_ _ | refine blk_drew ?_ | refine blk_alloc ?_ _)); refine blk_far ?_ NB309_313.out _; (with_reducible repeat (first | refine blk_drewN ?_ _ | refine blk_drew ?_ | refine blk_alloc ?_ _)); refine blk_far ?_ NB309_313.out _; (with_reducible repeat (first | refine blk_drewN ?_ _ | refine blk_drew ?_ | refine blk_alloc ?_ _)); exact BK309.out) hb); replace BK313 := Aside0.mk (blk_below (g := gb313) (o := .cells #[.int .i64 t310, .int .i64 t311] 26 (0, 0)) (by (with_reducible repeat (first | refine blk_drewN ?_ _ | refine blk_drew ?_ | refine blk_alloc ?_ _)); refine blk_put (cs := #[.int .i64 t310, .int .i64 0]) ?_ 1 _ rfl; (with_reducible repeat (first | refine blk_drewN ?_ _ | refine blk_drew ?_ | refine blk_alloc ?_ _)); refine blk_put (cs := #[.int .i64 0, .int .i64 0]) ?_ 0 _ rfl; (with_reducible repeat (first | refine blk_drewN ?_ _ | refine blk_drew ?_ | refine blk_alloc ?_ _)); exact BK313.out) hb); replace HB := Aside0.mk (below_step (qW HB.out) hb); (try clear hb); (try clear hb2); (try clear hk); (try clear hi); (try clear ho0); have hcz54_0 := qC BK313 0 rfl; have hcz54_1 := qC BK313 1 rfl; have hfz54_0 := blk_frozen BK313.out 0; have hfz54_1 := blk_frozen BK313.out 1; obtain ⟨Ao55, co55, eo55⟩ := Kd.R_slice HO316.out; subst eo55))
         go_ret
         exact ⟨by first | rfl | (simp [errW_none, errW_some] <;> rfl) | (simp [*, errW_none, errW_some] <;> rfl), by exact qW HB.out⟩
       · rw [if_neg c18] at H
         cases H
     · replace c17 := Bool.eq_false_iff.mpr c17
       subst c17
       have H1 : none = some r := by rw [if_neg (show ¬ (false = true) by decide)] at H; exact H
       cases H1
   · rw [if_neg c16] at H
     have c16b0 : decide (t310 ≤ 0) = false := decide_eq_false c16
     clear c16
     replace H := Option.bind_eq_some_iff.mp H
     obtain ⟨⟨t318, t321⟩, A1280, H⟩ := H
     replace H : (if t317 = 0 then (if t321 = 0 then (partitalaw05_MeterCut.j0 k t293 t314 t318 ((t314.length : Int) == 0) t294 t295 t296 t300 t301 t306 t307) else (partitalaw05_MeterCut.j0 k t293 t314 t318 true t294 t295 t296 t300 t301 t306 t307)) else (partitalaw05_MeterCut.j0 k t293 t314 t318 true t294 t295 t296 t300 t301 t306 t307)) = some r := H
     have A128 := Aside0.mk A1280
     clear A1280
     have HC129 := Aside0.mk H
     clear H
     go_upto_region 12 with (first | ((with_reducible refine gate_callee (f := 29) rfl ?_); refine goesL_ (some 59) rfl rfl Try.func29 (by kernel_rfl) rfl #[.agg #[.int .i64 t306, .int .i64 t307], .agg #[.int .i64 t300, .int .i64 t301]] rfl (by (try simp only [List.map_toArray, List.map_cons, List.map_nil]); first | done | rfl | (simp only [List.length_drop, List.length_take]; rfl)) ?_; (with_reducible refine (ratio_Sub.calls t306 t307 t300 t301 t310 t311 t312 _ A13.out).mono ?_); rintro e w155 ⟨rfl, hb⟩; refine ⟨_, rfl, ?_⟩; replace HO298 := Aside0.mk (Kd.R_below (qR ((Kd.R_mono (Kd.R_far (p := ⟨gb309, 1, none⟩) (Kd.R_far (p := ⟨gb309, 0, none⟩) (Kd.R_types HO298.out BK309.out (by decide)) (fun _ hk => hk.2) (.int .i64 t306)) (fun _ hk => hk.2) (.int .i64 t307)) (fun _ h_ => h_.1)))) hb); replace BK292 := Aside0.mk (blk_below (g := gb292) (o := .cells #[.int .i64 a0_0, .int .i64 a0_1, .slice A0_2 l0_2.length c0_2] 24 (0, 0)) (by (with_reducible repeat (first | refine blk_drewN ?_ _ | refine blk_drew ?_ | refine blk_alloc ?_ _)); refine blk_far ?_ NB292_309.out _; (with_reducible repeat (first | refine blk_drewN ?_ _ | refine blk_drew ?_ | refine blk_alloc ?_ _)); refine blk_far ?_ NB292_309.out _; (with_reducible repeat (first | refine blk_drewN ?_ _ | refine blk_drew ?_ | refine blk_alloc ?_ _)); exact BK292.out) hb); replace BK299 := Aside0.mk (blk_below (g := gb299) (o := .cells #[.int .i64 t294, .int .i64 t295, .slice Ao137 t296.length co137] 24 (0, 0)) (by (with_reducible repeat (first | refine blk_drewN ?_ _ | refine blk_drew ?_ | refine blk_alloc ?_ _)); refine blk_far ?_ NB299_309.out _; (with_reducible repeat (first | refine blk_drewN ?_ _ | refine blk_drew ?_ | refine blk_alloc ?_ _)); refine blk_far ?_ NB299_309.out _; (with_reducible repeat (first | refine blk_drewN ?_ _ | refine blk_drew ?_ | refine blk_alloc ?_ _)); exact BK299.out) hb); replace BK302 := Aside0.mk (blk_below (g := gb302) (o := .cells #[.int .i64 t300, .int .i64 t301] 26 (0, 0)) (by (with_reducible repeat (first | refine blk_drewN ?_ _ | refine blk_drew ?_ | refine blk_alloc ?_ _)); refine blk_far ?_ NB302_309.out _; (with_reducible repeat (first | refine blk_drewN ?_ _ | refine blk_drew ?_ | refine blk_alloc ?_ _)); refine blk_far ?_ NB302_309.out _; (with_reducible repeat (first | refine blk_drewN ?_ _ | refine blk_drew ?_ | refine blk_alloc ?_ _)); exact BK302.out) hb); replace BK309 := Aside0.mk (blk_below (g := gb309) (o := .cells #[.int .i64 t306, .int .i64 t307] 26 (0, 0)) (by (with_reducible repeat (first | refine blk_drewN ?_ _ | refine blk_drew ?_ | refine blk_alloc ?_ _)); refine blk_put (cs := #[.int .i64 t306, .int .i64 0]) ?_ 1 _ rfl; (with_reducible repeat (first | refine blk_drewN ?_ _ | refine blk_drew ?_ | refine blk_alloc ?_ _)); refine blk_put (cs := #[.int .i64 0, .int .i64 0]) ?_ 0 _ rfl; (with_reducible repeat (first | refine blk_drewN ?_ _ | refine blk_drew ?_ | refine blk_alloc ?_ _)); exact BK309.out) hb); replace HB := Aside0.mk (below_step (qW HB.out) hb); (try clear hb); (try clear hb2); (try clear hk); (try clear hi)) | ((with_reducible refine gate_dst (N := 16) rfl ?_); (try (refine gate_guard (by rfl) ?_; dsimp only)); refine box_event ?hg (N := 16) ?hd (cs := #[.int .i64 0, .int .i64 0]) (t := 26) ?hr ?_; (case hd => rfl); (case hg => rfl); (case hr => first | (go_simp; done) | (go_simp; rfl)); intro gb313 hg w156 hbox hb; replace HO298 := qE HO298 hb; have BK313 := Aside0.mk (hbox); have GW313 := qT HB hg; have GE313 := qS HB hg; replace HB := Aside0.mk (below_step (qW HB.out) hb); have NB292_313 := qL BK292 hg; have NB313_292 := qM BK292 hg; replace BK292 := qD BK292 hb; have NB299_313 := qL BK299 hg; have NB313_299 := qM BK299 hg; replace BK299 := qD BK299 hb; have NB302_313 := qL BK302 hg; have NB313_302 := qM BK302 hg; replace BK302 := qD BK302 hb; have NB309_313 := qL BK309 hg; have NB313_309 := qM BK309 hg; replace BK309 := qD BK309 hb; clear hb hbox hg; have hnb157 := NB313_292.out; have hnc157 := NB292_313.out; have hnb158 := NB313_299.out; have hnc158 := NB299_313.out; have hnb159 := NB313_302.out; have hnc159 := NB302_313.out; have hnb160 := NB313_309.out; have hnc160 := NB309_313.out; have hcz161_0 := qC BK313 0 rfl; have hcz161_1 := qC BK313 1 rfl; have hfz161_0 := blk_frozen BK313.out 0; have hfz161_1 := blk_frozen BK313.out 1; have hcz162_0 := qC BK299 0 rfl; have hcz162_1 := qC BK299 1 rfl; have hcz162_2 := qC BK299 2 rfl; have hfz162_0 := blk_frozen BK299.out 0; have hfz162_1 := blk_frozen BK299.out 1; have hfz162_2 := blk_frozen BK299.out 2; have hcz163_0 := qC BK302 0 rfl; have hcz163_1 := qC BK302 1 rfl; have hfz163_0 := blk_frozen BK302.out 0; have hfz163_1 := blk_frozen BK302.out 1) | ((with_reducible refine gate_callee (f := 24) rfl ?_); refine goesL_ (some 68) rfl rfl Try.func24 (by kernel_rfl) rfl #[.agg #[.int .i64 t294, .int .i64 t295, .slice Ao137 t296.length co137], .agg #[.int .i64 t300, .int .i64 t301], .agg #[.int .i64 t310, .int .i64 t311]] rfl (by (try simp only [List.map_toArray, List.map_cons, List.map_nil]); first | done | rfl | (simp only [List.length_drop, List.length_take]; rfl)) ?_; (with_reducible refine (meter_Cut.calls k t294 t295 _ _ t296 t300 t301 t310 t311 t314 t317 _ ?side1 ?side2 A15.out).mono ?_); (case side1 => refine (Kd.R_reads' (e := 3) (base := w.heap.size) (ok := fun k_ => True) (n := t296.length) (c := co137) ?_).2.2; exact (qR ((Kd.R_mono (Kd.R_far (p := ⟨gb313, 1, none⟩) (Kd.R_far (p := ⟨gb313, 0, none⟩) (Kd.R_types HO298.out BK313.out (by decide)) (fun _ hk => hk.2) (.int .i64 t310)) (fun _ hk => hk.2) (.int .i64 t311)) (fun _ h_ => h_.1))))); (case side2 => exact (Kd.R_reads' HO298.out).2.1); rintro e w164 ⟨v315, rfl, ho0, hb⟩; refine ⟨_, rfl, ?_⟩; replace HO298 := Aside0.mk (Kd.R_below (qR ((Kd.R_mono (Kd.R_far (p := ⟨gb313, 1, none⟩) (Kd.R_far (p := ⟨gb313, 0, none⟩) (Kd.R_types HO298.out BK313.out (by decide)) (fun _ hk => hk.2) (.int .i64 t310)) (fun _ hk => hk.2) (.int .i64 t311)) (fun _ h_ => h_.1)))) hb); have HO316 := Aside0.mk (Kd.R_lower (Kd.R_newB (Kd.R_newB (Kd.R_newB ho0 (g := gb302) (o := .cells #[.int .i64 t300, .int .i64 t301] 26 (0, 0)) (by (with_reducible repeat (first | refine blk_drewN ?_ _ | refine blk_drew ?_ | refine blk_alloc ?_ _)); refine blk_far ?_ NB302_313.out _; (with_reducible repeat (first | refine blk_drewN ?_ _ | refine blk_drew ?_ | refine blk_alloc ?_ _)); refine blk_far ?_ NB302_313.out _; (with_reducible repeat (first | refine blk_drewN ?_ _ | refine blk_drew ?_ | refine blk_alloc ?_ _)); exact BK302.out)) (g := gb309) (o := .cells #[.int .i64 t306, .int .i64 t307] 26 (0, 0)) (by (with_reducible repeat (first | refine blk_drewN ?_ _ | refine blk_drew ?_ | refine blk_alloc ?_ _)); refine blk_far ?_ NB309_313.out _; (with_reducible repeat (first | refine blk_drewN ?_ _ | refine blk_drew ?_ | refine blk_alloc ?_ _)); refine blk_far ?_ NB309_313.out _; (with_reducible repeat (first | refine blk_drewN ?_ _ | refine blk_drew ?_ | refine blk_alloc ?_ _)); exact BK309.out)) (g := gb313) (o := .cells #[.int .i64 t310, .int .i64 t311] 26 (0, 0)) (by (with_reducible repeat (first | refine blk_drewN ?_ _ | refine blk_drew ?_ | refine blk_alloc ?_ _)); refine blk_put (cs := #[.int .i64 t310, .int .i64 0]) ?_ 1 _ rfl; (with_reducible repeat (first | refine blk_drewN ?_ _ | refine blk_drew ?_ | refine blk_alloc ?_ _)); refine blk_put (cs := #[.int .i64 0, .int .i64 0]) ?_ 0 _ rfl; (with_reducible repeat (first | refine blk_drewN ?_ _ | refine blk_drew ?_ | refine blk_alloc ?_ _)); exact BK313.out)) (below_size (qW HB.out))); replace BK292 := Aside0.mk (blk_below (g := gb292) (o := .cells #[.int .i64 a0_0, .int .i64 a0_1, .slice A0_2 l0_2.length c0_2] 24 (0, 0)) (by (with_reducible repeat (first | refine blk_drewN ?_ _ | refine blk_drew ?_ | refine blk_alloc ?_ _)); refine blk_far ?_ NB292_313.out _; (with_reducible repeat (first | refine blk_drewN ?_ _ | refine blk_drew ?_ | refine blk_alloc ?_ _)); refine blk_far ?_ NB292_313.out _; (with_reducible repeat (first | refine blk_drewN ?_ _ | refine blk_drew ?_ | refine blk_alloc ?_ _)); exact BK292.out) hb); replace BK299 := Aside0.mk (blk_below (g := gb299) (o := .cells #[.int .i64 t294, .int .i64 t295, .slice Ao137 t296.length co137] 24 (0, 0)) (by (with_reducible repeat (first | refine blk_drewN ?_ _ | refine blk_drew ?_ | refine blk_alloc ?_ _)); refine blk_far ?_ NB299_313.out _; (with_reducible repeat (first | refine blk_drewN ?_ _ | refine blk_drew ?_ | refine blk_alloc ?_ _)); refine blk_far ?_ NB299_313.out _; (with_reducible repeat (first | refine blk_drewN ?_ _ | refine blk_drew ?_ | refine blk_alloc ?_ _)); exact BK299.out) hb); replace BK302 := Aside0.mk (blk_below (g := gb302) (o := .cells #[.int .i64 t300, .int .i64 t301] 26 (0, 0)) (by (with_reducible repeat (first | refine blk_drewN ?_ _ | refine blk_drew ?_ | refine blk_alloc ?_ _)); refine blk_far ?_ NB302_313.out _; (with_reducible repeat (first | refine blk_drewN ?_ _ | refine blk_drew ?_ | refine blk_alloc ?_ _)); refine blk_far ?_ NB302_313.out _; (with_reducible repeat (first | refine blk_drewN ?_ _ | refine blk_drew ?_ | refine blk_alloc ?_ _)); exact BK302.out) hb); replace BK309 := Aside0.mk (blk_below (g := gb309) (o := .cells #[.int .i64 t306, .int .i64 t307] 26 (0, 0)) (by (with_reducible repeat (first | refine blk_drewN ?_ _ | refine blk_drew ?_ | refine blk_alloc ?_ _)); refine blk_far ?_ NB309_313.out _; (with_reducible repeat (first | refine blk_drewN ?_ _ | refine blk_drew ?_ | refine blk_alloc ?_ _)); refine blk_far ?_ NB309_313.out _; (with_reducible repeat (first | refine blk_drewN ?_ _ | refine blk_drew ?_ | refine blk_alloc ?_ _)); exact BK309.out) hb); replace BK313 := Aside0.mk (blk_below (g := gb313) (o := .cells #[.int .i64 t310, .int .i64 t311] 26 (0, 0)) (by (with_reducible repeat (first | refine blk_drewN ?_ _ | refine blk_drew ?_ | refine blk_alloc ?_ _)); refine blk_put (cs := #[.int .i64 t310, .int .i64 0]) ?_ 1 _ rfl; (with_reducible repeat (first | refine blk_drewN ?_ _ | refine blk_drew ?_ | refine blk_alloc ?_ _)); refine blk_put (cs := #[.int .i64 0, .int .i64 0]) ?_ 0 _ rfl; (with_reducible repeat (first | refine blk_drewN ?_ _ | refine blk_drew ?_ | refine blk_alloc ?_ _)); exact BK313.out) hb); replace HB := Aside0.mk (below_step (qW HB.out) hb); (try clear hb); (try clear hb2); (try clear hk); (try clear hi); (try clear ho0); have hcz165_0 := qC BK313 0 rfl; have hcz165_1 := qC BK313 1 rfl; have hfz165_0 := blk_frozen BK313.out 0; have hfz165_1 := blk_frozen BK313.out 1; have hcz166_0 := qC BK299 0 rfl; have hcz166_1 := qC BK299 1 rfl; have hcz166_2 := qC BK299 2 rfl; have hfz166_0 := blk_frozen BK299.out 0; have hfz166_1 := blk_frozen BK299.out 1; have hfz166_2 := blk_frozen BK299.out 2) | ((with_reducible refine gate_callee (f := 14) rfl ?_); refine goesL_ (some 86) rfl rfl Try.func14 (by kernel_rfl) rfl #[.agg #[.int .i64 t294, .int .i64 t295, .slice Ao137 t296.length co137]] rfl (by (try simp only [List.map_toArray, List.map_cons, List.map_nil]); first | done | rfl | (simp only [List.length_drop, List.length_take]; rfl)) ?_; (with_reducible refine (meter_Beats.calls k t294 t295 _ _ t296 t318 t321 _ ?side1 ?side2 A128.out).mono ?_); (case side1 => repeat (first | exact (Kd.R_reads' HO298.out).2.2 | (with_reducible refine Kd.C_alloc ?_ _) | (with_reducible refine Kd.C_drewN ?_ _) | (with_reducible refine Kd.C_drew ?_))); (case side2 => exact (Kd.R_reads' HO298.out).2.1); rintro e w167 ⟨v319, rfl, ho0, hb⟩; refine ⟨_, rfl, ?_⟩; replace HO298 := qE HO298 hb; have HO320 := Aside0.mk (Kd.R_lower (Kd.R_newB (Kd.R_newB (Kd.R_newB (Kd.R_new' ho0 (Kd.R_lt (qR HO316.out))) (qB BK302.out)) (qB BK309.out)) (qB BK313.out)) (below_size (qW HB.out))); replace HO316 := Aside0.mk (Kd.R_elder' (qR HO316.out) (Kd.R_base ho0) hb); replace BK292 := qD BK292 hb; replace BK299 := qD BK299 hb; replace BK302 := qD BK302 hb; replace BK309 := qD BK309 hb; replace BK313 := qD BK313 hb; replace HB := Aside0.mk (below_step (qW HB.out) hb); (try clear hb); (try clear hb2); (try clear hk); (try clear hi); (try clear ho0)))
     (try simp only [Act.put, qa_, qz_, qs_])
     go_cut [99] (fun v99 wc => ∃ (kq : Nat) (x99_128 : Bool), v99 = .bool x99_128 ∧ Aside0 (partitalaw05_MeterCut.j0 kq t293 t314 t318 x99_128 t294 t295 t296 t300 t301 t306 t307 = some r) ∧ Aside0 (kq ≤ k) ∧ Aside0 (Kd.R k26 26 wc w.heap.size (fun k_ => some k_ ≠ (v319 : Value).ownBlock ∧ k_ ≠ gb302 ∧ k_ ≠ gb309 ∧ k_ ≠ gb313) v315 t314) ∧ Aside0 (Kd.R k26 26 wc w.heap.size (fun k_ => some k_ ≠ (v315 : Value).ownBlock ∧ k_ ≠ gb302 ∧ k_ ≠ gb309 ∧ k_ ≠ gb313) v319 t318) ∧ Aside0 (Kd.R (Kd.int .i64) 3 wc w.heap.size (fun _ => True) (.slice Ao137 t296.length co137) t296) ∧ Aside0 (wc.heap[gb292]? = some (.cells #[.int .i64 a0_0, .int .i64 a0_1, (.slice A0_2 l0_2.length c0_2)] 24 (0, 0))) ∧ Aside0 (wc.heap[gb299]? = some (.cells #[.int .i64 t294, .int .i64 t295, (.slice Ao137 t296.length co137)] 24 (0, 0))) ∧ Aside0 (wc.heap[gb302]? = some (.cells #[.int .i64 t300, .int .i64 t301] 26 (0, 0))) ∧ Aside0 (wc.heap[gb309]? = some (.cells #[.int .i64 t306, .int .i64 t307] 26 (0, 0))) ∧ Aside0 (wc.heap[gb313]? = some (.cells #[.int .i64 t310, .int .i64 t311] 26 (0, 0))) ∧ Aside0 (Below w.heap.size w wc))
     case first =>
      have H := HC129.out
      clear HC129
      by_cases c168 : t317 = 0
      · rw [if_pos c168] at H
        have c168b0 : (t317 == 0) = true := beq_iff_eq.mpr c168
        have c168b1 : (t317 != 0) = false := bne_eq_false_iff_eq.mpr c168
        clear c168
        (first | rw [c168b0] | (simp only [i64_w, i32_w]; rw [c168b0]) | skip)
        by_cases c169 : t321 = 0
        · rw [if_pos c169] at H
          have c169b0 : (t321 == 0) = true := beq_iff_eq.mpr c169
          have c169b1 : (t321 != 0) = false := bne_eq_false_iff_eq.mpr c169
          clear c169
          have H' := Aside0.mk H
          clear H
          obtain ⟨Ao170, co170, eo170⟩ := Kd.R_slice HO316.out
          subst eo170
          go_wp2
          go_meet
          case rel => exact ⟨_, (((t314.length : Int) == 0)), (by first | rfl | (simp; done) | (simp [*]; done)), H', ⟨by first | omega | exact Nat.le_refl _⟩, ⟨by (with_reducible repeat (first | apply Kd.R_alloc | apply Kd.R_drewN | apply Kd.R_drew)); exact Kd.R_mono HO316.out (fun _ hk => ⟨hk.2, ⟨hk.1.1.1.2, ⟨hk.1.1.2, hk.1.2⟩⟩⟩)⟩, ⟨by (with_reducible repeat (first | apply Kd.R_alloc | apply Kd.R_drewN | apply Kd.R_drew)); exact Kd.R_mono HO320.out (fun _ hk => ⟨hk.1.1.1.2, ⟨hk.1.1.2, ⟨hk.1.2, hk.2⟩⟩⟩)⟩, ⟨by (with_reducible repeat (first | apply Kd.R_alloc | apply Kd.R_drewN | apply Kd.R_drew)); exact HO298.out⟩, ⟨by (with_reducible repeat (first | refine blk_drewN ?_ _ | refine blk_drew ?_ | refine blk_alloc ?_ _)); exact BK292.out⟩, ⟨by (with_reducible repeat (first | refine blk_drewN ?_ _ | refine blk_drew ?_ | refine blk_alloc ?_ _)); exact BK299.out⟩, ⟨by (with_reducible repeat (first | refine blk_drewN ?_ _ | refine blk_drew ?_ | refine blk_alloc ?_ _)); exact BK302.out⟩, ⟨by (with_reducible repeat (first | refine blk_drewN ?_ _ | refine blk_drew ?_ | refine blk_alloc ?_ _)); exact BK309.out⟩, ⟨by (with_reducible repeat (first | refine blk_drewN ?_ _ | refine blk_drew ?_ | refine blk_alloc ?_ _)); exact BK313.out⟩, ⟨by exact qW HB.out⟩⟩
        · rw [if_neg c169] at H
          cases k <;> cases H
      · rw [if_neg c168] at H
        cases k <;> cases H
     case rest =>
      clear HC129
      try clear c1
      try clear c2
      try clear p2
      try clear p6
      try clear c14
      try clear c15
      try clear c16
      try clear c24
      try clear c27
      try clear c28
      try clear c29
      try clear p64
      try clear c150
      try clear c151
      try clear c152
      try clear c157
      try clear c158
      try clear c159
      try clear c160
      try clear c168
      try clear c168b0
      try clear c168b1
      try clear c169
      try clear c169b0
      try clear c169b1
      try clear hcz153_0
      try clear hcz153_1
      try clear hcz154_0
      try clear hcz154_1
      try clear hcz161_0
      try clear hcz161_1
      try clear hcz162_0
      try clear hcz162_1
      try clear hcz162_2
      try clear hcz163_0
      try clear hcz163_1
      try clear hcz165_0
      try clear hcz165_1
      try clear hcz166_0
      try clear hcz166_1
      try clear hcz166_2
      try clear hfz153_0
      try clear hfz153_1
      try clear hfz154_0
      try clear hfz154_1
      try clear hfz161_0
      try clear hfz161_1
      try clear hfz162_0
      try clear hfz162_1
      try clear hfz162_2
      try clear hfz163_0
      try clear hfz163_1
      try clear hfz165_0
      try clear hfz165_1
      try clear hfz166_0
      try clear hfz166_1
      try clear hfz166_2
      obtain ⟨kq, x99_128, rfl, HA, HJ128, HO_18, HO_20, HO_300002, BK292, BK299, BK302, BK309, BK313, HB⟩ := hcut
      cases kq with
      | zero => exact absurd HA.out (by simp [partitalaw05_MeterCut.j0])
      | succ kj128 =>
       have H := HA.out
       clear HA
       simp only [partitalaw05_MeterCut.j0] at H
       by_cases c171 : x99_128 = true
       · subst c171
         have H1 : none = some r := by rw [if_pos rfl] at H; exact H
         cases H1
       · replace c171 := Bool.eq_false_iff.mpr c171
         subst c171
         have H1 : (partitalaw05_MeterCut.l0 kj128 t293 t314 t318 0 t294 t295 t296 t306 t307 t300 t301) = some r := by rw [if_neg (show ¬ (false = true) by decide)] at H; exact H
         clear H
         have H := H1
         clear H1
         have H' := Aside0.mk H
         clear H
         have hnb172 := NB302_292.out
         have hnc172 := NB292_302.out
         have hnb173 := NB302_299.out
         have hnc173 := NB299_302.out
         have hnb174 := NB302_309.out
         have hnc174 := NB309_302.out
         have hnb175 := NB302_313.out
         have hnc175 := NB313_302.out
         have hcz176_0 := qC BK302 0 rfl
         have hcz176_1 := qC BK302 1 rfl
         have hfz176_0 := blk_frozen BK302.out 0
         have hfz176_1 := blk_frozen BK302.out 1
         go_wp2_with (first | ((with_reducible refine gate_dst (N := 22) rfl ?_); (try (refine gate_guard (by rfl) ?_; dsimp only)); refine box_event ?hg (N := 22) ?hd (cs := #[.int .i64 0, .int .i64 0]) (t := 26) ?hr ?_; (case hd => rfl); (case hg => rfl); (case hr => first | (go_simp; done) | (go_simp; rfl)); intro gb322 hg w177 hbox hb; replace HO_18 := Aside0.mk (Kd.R_below (Kd.R_elderB (qR HO_18.out) gb322 (Nat.le_of_eq hg.symm)) hb); replace HO_20 := Aside0.mk (Kd.R_below (Kd.R_elderB (qR HO_20.out) gb322 (Nat.le_of_eq hg.symm)) hb); replace HO_300002 := qE HO_300002 hb; have BK322 := Aside0.mk (hbox); have GW322 := qT HB hg; have GE322 := qS HB hg; replace HB := Aside0.mk (below_step (qW HB.out) hb); have NB292_322 := qL BK292 hg; have NB322_292 := qM BK292 hg; replace BK292 := qD BK292 hb; have NB299_322 := qL BK299 hg; have NB322_299 := qM BK299 hg; replace BK299 := qD BK299 hb; have NB302_322 := qL BK302 hg; have NB322_302 := qM BK302 hg; replace BK302 := qD BK302 hb; have NB309_322 := qL BK309 hg; have NB322_309 := qM BK309 hg; replace BK309 := qD BK309 hb; have NB313_322 := qL BK313 hg; have NB322_313 := qM BK313 hg; replace BK313 := qD BK313 hb; clear hb hbox hg; have hnb178 := NB322_292.out; have hnc178 := NB292_322.out; have hnb179 := NB322_299.out; have hnc179 := NB299_322.out; have hnb180 := NB322_302.out; have hnc180 := NB302_322.out; have hnb181 := NB322_309.out; have hnc181 := NB309_322.out; have hnb182 := NB322_313.out; have hnc182 := NB313_322.out; have hcz183_0 := qC BK322 0 rfl; have hcz183_1 := qC BK322 1 rfl; have hfz183_0 := blk_frozen BK322.out 0; have hfz183_1 := blk_frozen BK322.out 1))
         go_loopg [23] kj128 (fun kq v23 w' => ∃ (x23_2 : Int) (x323000_2 : Int) (x323001_2 : Int), v23 = .int .i64 x23_2 ∧ Aside0 (partitalaw05_MeterCut.l0 kq t293 t314 t318 x23_2 t294 t295 t296 t306 t307 x323000_2 x323001_2 = some r) ∧ Aside0 (kq ≤ kj128) ∧ Aside0 (Kd.R k26 26 w' w.heap.size (fun k_ => some k_ ≠ (v319 : Value).ownBlock ∧ k_ ≠ gb302 ∧ k_ ≠ gb309 ∧ k_ ≠ gb313 ∧ k_ ≠ gb322) v315 t314) ∧ Aside0 (Kd.R k26 26 w' w.heap.size (fun k_ => some k_ ≠ (v315 : Value).ownBlock ∧ k_ ≠ gb302 ∧ k_ ≠ gb309 ∧ k_ ≠ gb313 ∧ k_ ≠ gb322) v319 t318) ∧ Aside0 (Kd.R (Kd.int .i64) 3 w' w.heap.size (fun _ => True) (.slice Ao137 t296.length co137) t296) ∧ Aside0 (w'.heap[gb292]? = some (.cells #[.int .i64 a0_0, .int .i64 a0_1, (.slice A0_2 l0_2.length c0_2)] 24 (0, 0))) ∧ Aside0 (w'.heap[gb299]? = some (.cells #[.int .i64 t294, .int .i64 t295, (.slice Ao137 t296.length co137)] 24 (0, 0))) ∧ Aside0 (w'.heap[gb302]? = some (.cells #[.int .i64 t300, .int .i64 t301] 26 (0, 0))) ∧ Aside0 (w'.heap[gb309]? = some (.cells #[.int .i64 t306, .int .i64 t307] 26 (0, 0))) ∧ Aside0 (w'.heap[gb313]? = some (.cells #[.int .i64 t310, .int .i64 t311] 26 (0, 0))) ∧ Aside0 (w'.heap[gb322]? = some (.cells #[.int .i64 x323000_2, .int .i64 x323001_2] 26 (0, 0))) ∧ Aside0 (Below w.heap.size w w'))
         case atStart => exact ⟨(0), (t300), (t301), (by first | rfl | (simp; done) | (simp [*]; done)), H', ⟨Nat.le_refl _⟩, ⟨by (with_reducible repeat (first | apply Kd.R_alloc | apply Kd.R_drewN | apply Kd.R_drew)); exact Kd.R_mono (Kd.R_far (p := ⟨gb322, 1, none⟩) (Kd.R_far (p := ⟨gb322, 0, none⟩) (Kd.R_mono HO_18.out (fun k_ hk => (⟨hk, hk.2⟩ : _ ∧ k_ ≠ gb322))) (fun _ hk => hk.2) (.int .i64 t300)) (fun _ hk => hk.2) (.int .i64 t301)) (fun _ hk => ⟨hk.1.1.1, ⟨hk.1.1.2.1, ⟨hk.1.1.2.2.1, ⟨hk.1.1.2.2.2, hk.1.2⟩⟩⟩⟩)⟩, ⟨by (with_reducible repeat (first | apply Kd.R_alloc | apply Kd.R_drewN | apply Kd.R_drew)); exact Kd.R_mono (Kd.R_far (p := ⟨gb322, 1, none⟩) (Kd.R_far (p := ⟨gb322, 0, none⟩) (Kd.R_mono HO_20.out (fun k_ hk => (⟨hk, hk.2⟩ : _ ∧ k_ ≠ gb322))) (fun _ hk => hk.2) (.int .i64 t300)) (fun _ hk => hk.2) (.int .i64 t301)) (fun _ hk => ⟨hk.1.1.1, ⟨hk.1.1.2.1, ⟨hk.1.1.2.2.1, ⟨hk.1.1.2.2.2, hk.1.2⟩⟩⟩⟩)⟩, ⟨by (with_reducible repeat (first | apply Kd.R_alloc | apply Kd.R_drewN | apply Kd.R_drew)); exact Kd.R_mono (Kd.R_far (p := ⟨gb322, 1, none⟩) (Kd.R_far (p := ⟨gb322, 0, none⟩) (Kd.R_types HO_300002.out BK322.out (by decide)) (fun _ hk => hk.2) (.int .i64 t300)) (fun _ hk => hk.2) (.int .i64 t301)) (fun _ hk => trivial)⟩, ⟨by (with_reducible repeat (first | refine blk_drewN ?_ _ | refine blk_drew ?_ | refine blk_alloc ?_ _)); refine blk_far ?_ NB292_322.out _; (with_reducible repeat (first | refine blk_drewN ?_ _ | refine blk_drew ?_ | refine blk_alloc ?_ _)); refine blk_far ?_ NB292_322.out _; (with_reducible repeat (first | refine blk_drewN ?_ _ | refine blk_drew ?_ | refine blk_alloc ?_ _)); exact BK292.out⟩, ⟨by (with_reducible repeat (first | refine blk_drewN ?_ _ | refine blk_drew ?_ | refine blk_alloc ?_ _)); refine blk_far ?_ NB299_322.out _; (with_reducible repeat (first | refine blk_drewN ?_ _ | refine blk_drew ?_ | refine blk_alloc ?_ _)); refine blk_far ?_ NB299_322.out _; (with_reducible repeat (first | refine blk_drewN ?_ _ | refine blk_drew ?_ | refine blk_alloc ?_ _)); exact BK299.out⟩, ⟨by (with_reducible repeat (first | refine blk_drewN ?_ _ | refine blk_drew ?_ | refine blk_alloc ?_ _)); refine blk_far ?_ NB302_322.out _; (with_reducible repeat (first | refine blk_drewN ?_ _ | refine blk_drew ?_ | refine blk_alloc ?_ _)); refine blk_far ?_ NB302_322.out _; (with_reducible repeat (first | refine blk_drewN ?_ _ | refine blk_drew ?_ | refine blk_alloc ?_ _)); exact BK302.out⟩, ⟨by (with_reducible repeat (first | refine blk_drewN ?_ _ | refine blk_drew ?_ | refine blk_alloc ?_ _)); refine blk_far ?_ NB309_322.out _; (with_reducible repeat (first | refine blk_drewN ?_ _ | refine blk_drew ?_ | refine blk_alloc ?_ _)); refine blk_far ?_ NB309_322.out _; (with_reducible repeat (first | refine blk_drewN ?_ _ | refine blk_drew ?_ | refine blk_alloc ?_ _)); exact BK309.out⟩, ⟨by (with_reducible repeat (first | refine blk_drewN ?_ _ | refine blk_drew ?_ | refine blk_alloc ?_ _)); refine blk_far ?_ NB313_322.out _; (with_reducible repeat (first | refine blk_drewN ?_ _ | refine blk_drew ?_ | refine blk_alloc ?_ _)); refine blk_far ?_ NB313_322.out _; (with_reducible repeat (first | refine blk_drewN ?_ _ | refine blk_drew ?_ | refine blk_alloc ?_ _)); exact BK313.out⟩, ⟨by (with_reducible repeat (first | refine blk_drewN ?_ _ | refine blk_drew ?_ | refine blk_alloc ?_ _)); refine blk_put (cs := #[.int .i64 t300, .int .i64 0]) ?_ 1 _ rfl; (with_reducible repeat (first | refine blk_drewN ?_ _ | refine blk_drew ?_ | refine blk_alloc ?_ _)); refine blk_put (cs := #[.int .i64 0, .int .i64 0]) ?_ 0 _ rfl; (with_reducible repeat (first | refine blk_drewN ?_ _ | refine blk_drew ?_ | refine blk_alloc ?_ _)); exact BK322.out⟩, ⟨by exact qW HB.out⟩⟩
         case round =>
          clear H'
          try clear c1
          try clear c2
          try clear p2
          try clear p6
          try clear c14
          try clear c15
          try clear c16
          try clear c17
          try clear c18
          try clear c24
          try clear c27
          try clear c28
          try clear c29
          try clear p64
          try clear c150
          try clear c151
          try clear c152
          try clear c157
          try clear c158
          try clear c159
          try clear c160
          try clear c168
          try clear c168b0
          try clear c168b1
          try clear c169
          try clear c169b0
          try clear c169b1
          try clear c171
          try clear c172
          try clear c173
          try clear c174
          try clear c175
          try clear c178
          try clear c179
          try clear c180
          try clear c181
          try clear c182
          try clear hcz153_0
          try clear hcz153_1
          try clear hcz154_0
          try clear hcz154_1
          try clear hcz161_0
          try clear hcz161_1
          try clear hcz162_0
          try clear hcz162_1
          try clear hcz162_2
          try clear hcz163_0
          try clear hcz163_1
          try clear hcz165_0
          try clear hcz165_1
          try clear hcz166_0
          try clear hcz166_1
          try clear hcz166_2
          try clear hcz176_0
          try clear hcz176_1
          try clear hcz183_0
          try clear hcz183_1
          try clear hfz153_0
          try clear hfz153_1
          try clear hfz154_0
          try clear hfz154_1
          try clear hfz161_0
          try clear hfz161_1
          try clear hfz162_0
          try clear hfz162_1
          try clear hfz162_2
          try clear hfz163_0
          try clear hfz163_1
          try clear hfz165_0
          try clear hfz165_1
          try clear hfz166_0
          try clear hfz166_1
          try clear hfz166_2
          try clear hfz176_0
          try clear hfz176_1
          try clear hfz183_0
          try clear hfz183_1
          try clear p2
          try clear p6
          try clear p64
          obtain ⟨x23_2, x323000_2, x323001_2, rfl, HA, HK2, HO_18, HO_20, HO_300002, BK292, BK299, BK302, BK309, BK313, BK322, HB⟩ := hrel
          cases gk with
          | zero => exact absurd HA.out (by simp [partitalaw05_MeterCut.l0])
          | succ k2 =>
           have H := HA.out
           clear HA
           simp only [partitalaw05_MeterCut.l0] at H
           by_cases c184 : x23_2 < (t314.length : Int)
           · rw [if_pos c184] at H
             have c184b0 : decide (x23_2 < (t314.length : Int)) = true := decide_eq_true c184
             clear c184
             replace H := Option.bind_eq_some_iff.mp H
             obtain ⟨⟨t323, t324⟩, A1850, H⟩ := H
             replace H : (if 0 ≤ x23_2 then ((ratio_Add.f x323000_2 x323001_2 ((rd_T26 t314 x23_2).f0) ((rd_T26 t314 x23_2).f1)).bind fun bt326 => (if t324 = 0 then (if bt326.2.2 = 0 then (if ((rd_T26 t314 x23_2).f0) ≤ 0 then (partitalaw05_MeterCut.j2 k2 t293 t314 t318 x23_2 true t294 t295 t296 t306 t307 x323000_2 x323001_2 bt326.1 bt326.2.1) else (if x23_2 > 0 then (partitalaw05_MeterCut.j2 k2 t293 t314 t318 x23_2 (decide (t323 < 2)) t294 t295 t296 t306 t307 x323000_2 x323001_2 bt326.1 bt326.2.1) else (partitalaw05_MeterCut.j2 k2 t293 t314 t318 x23_2 false t294 t295 t296 t306 t307 x323000_2 x323001_2 bt326.1 bt326.2.1))) else (partitalaw05_MeterCut.j2 k2 t293 t314 t318 x23_2 true t294 t295 t296 t306 t307 x323000_2 x323001_2 bt326.1 bt326.2.1)) else (partitalaw05_MeterCut.j2 k2 t293 t314 t318 x23_2 true t294 t295 t296 t306 t307 x323000_2 x323001_2 bt326.1 bt326.2.1))) else (none)) = some r := H
             have A185 := Aside0.mk A1850
             clear A1850
             by_cases c186 : 0 ≤ x23_2
             · rw [if_pos c186] at H
               have c186b0 : decide (0 ≤ x23_2) = true := decide_eq_true c186
               clear c186
               replace H := Option.bind_eq_some_iff.mp H
               obtain ⟨⟨t326, t327, t328⟩, A1870, H⟩ := H
               replace H : (if t324 = 0 then (if t328 = 0 then (if ((rd_T26 t314 x23_2).f0) ≤ 0 then (partitalaw05_MeterCut.j2 k2 t293 t314 t318 x23_2 true t294 t295 t296 t306 t307 x323000_2 x323001_2 t326 t327) else (if x23_2 > 0 then (partitalaw05_MeterCut.j2 k2 t293 t314 t318 x23_2 (decide (t323 < 2)) t294 t295 t296 t306 t307 x323000_2 x323001_2 t326 t327) else (partitalaw05_MeterCut.j2 k2 t293 t314 t318 x23_2 false t294 t295 t296 t306 t307 x323000_2 x323001_2 t326 t327))) else (partitalaw05_MeterCut.j2 k2 t293 t314 t318 x23_2 true t294 t295 t296 t306 t307 x323000_2 x323001_2 t326 t327)) else (partitalaw05_MeterCut.j2 k2 t293 t314 t318 x23_2 true t294 t295 t296 t306 t307 x323000_2 x323001_2 t326 t327)) = some r := H
               have A187 := Aside0.mk A1870
               clear A1870
               have HC188 := Aside0.mk H
               clear H
               obtain ⟨Ao189, co189, eo189⟩ := Kd.R_slice HO_18.out
               subst eo189
               have hnb190 := NB299_292.out
               have hnc190 := NB292_299.out
               have hnb191 := NB299_302.out
               have hnc191 := NB302_299.out
               have hnb192 := NB299_309.out
               have hnc192 := NB309_299.out
               have hnb193 := NB299_313.out
               have hnc193 := NB313_299.out
               have hnb194 := NB299_322.out
               have hnc194 := NB322_299.out
               have hcz195_0 := qC BK299 0 rfl
               have hcz195_1 := qC BK299 1 rfl
               have hcz195_2 := qC BK299 2 rfl
               have hfz195_0 := blk_frozen BK299.out 0
               have hfz195_1 := blk_frozen BK299.out 1
               have hfz195_2 := blk_frozen BK299.out 2
               have hnb196 := NB322_292.out
               have hnc196 := NB292_322.out
               have hnb197 := NB322_302.out
               have hnc197 := NB302_322.out
               have hnb198 := NB322_309.out
               have hnc198 := NB309_322.out
               have hnb199 := NB322_313.out
               have hnc199 := NB313_322.out
               have hcz200_0 := qC BK322 0 rfl
               have hcz200_1 := qC BK322 1 rfl
               have hfz200_0 := blk_frozen BK322.out 0
               have hfz200_1 := blk_frozen BK322.out 1
               try go_wp2_with (first | ((with_reducible refine gate_callee (f := 22) rfl ?_); refine goesL_ (some 110) rfl rfl Try.func22 (by kernel_rfl) rfl #[.agg #[.int .i64 t294, .int .i64 t295, .slice Ao137 t296.length co137], .agg #[.int .i64 x323000_2, .int .i64 x323001_2]] rfl (by (try simp only [List.map_toArray, List.map_cons, List.map_nil]); first | done | rfl | (simp only [List.length_drop, List.length_take]; rfl)) ?_; (with_reducible refine (meter_Weight.calls k2 t294 t295 _ _ t296 x323000_2 x323001_2 t323 t324 _ ?side1 ?side2 A185.out).mono ?_); (case side1 => repeat (first | exact (Kd.R_reads' HO_300002.out).2.2 | (with_reducible refine Kd.C_alloc ?_ _) | (with_reducible refine Kd.C_drewN ?_ _) | (with_reducible refine Kd.C_drew ?_))); (case side2 => exact (Kd.R_reads' HO_300002.out).2.1); rintro e w201 ⟨rfl, hb⟩; refine ⟨_, rfl, ?_⟩; replace HO_18 := qE HO_18 hb; replace HO_20 := qE HO_20 hb; replace HO_300002 := qE HO_300002 hb; replace BK292 := qD BK292 hb; replace BK299 := qD BK299 hb; replace BK302 := qD BK302 hb; replace BK309 := qD BK309 hb; replace BK313 := qD BK313 hb; replace BK322 := qD BK322 hb; replace HB := Aside0.mk (below_step (qW HB.out) hb); (try clear hb); (try clear hb2); (try clear hk); (try clear hi)))
               replace HO_18 := Aside0.mk (Kd.R_drew HO_18.out)
               replace HO_20 := Aside0.mk (Kd.R_drew HO_20.out)
               replace HO_300002 := Aside0.mk (Kd.R_drew HO_300002.out)
               replace BK292 := Aside0.mk (blk_drew BK292.out)
               replace BK299 := Aside0.mk (blk_drew BK299.out)
               replace BK302 := Aside0.mk (blk_drew BK302.out)
               replace BK309 := Aside0.mk (blk_drew BK309.out)
               replace BK313 := Aside0.mk (blk_drew BK313.out)
               replace BK322 := Aside0.mk (blk_drew BK322.out)
               replace HB := Aside0.mk (below_drew1 HB.out)
               have p325 : 0 ≤ (x23_2 : Int) := of_decide_eq_true (by first | (with_reducible assumption) | assumption)
               have q325 : x23_2 < (t314.length : Int) := of_decide_eq_true (by first | (with_reducible assumption) | assumption)
               obtain ⟨ad325, e325, hx325_0, hx325_1⟩ := at_T26 (Kd.R_reads' HO_18.out).2.2 x23_2 p325 q325
               cases e325
               replace p325 := eq_true p325
               replace q325 := eq_true q325
               refine start_ (n := 12) (S := fun w' => w'.cell? ⟨gb322, 0, none⟩ = some (.int .i64 x323000_2) ∧ w'.cell? ⟨gb322, 1, none⟩ = some (.int .i64 x323001_2) ∧ w'.cell? (ad325.add ((x23_2).toNat * 2)) = some (.int .i64 ((rd_T26 t314 x23_2).f0)) ∧ w'.cell? ⟨(ad325.add ((x23_2).toNat * 2)).block, (ad325.add ((x23_2).toNat * 2)).off + 1, none⟩ = some (.int .i64 ((rd_T26 t314 x23_2).f1))) (ds := []) #[false, false, false, false, false, false, false, false, false, false, false, false] (by kernel_rfl) rfl rfl ⟨(blk_cell BK322.out 0).trans rfl, (blk_cell BK322.out 1).trans rfl, hx325_0, hx325_1⟩ (fun hHeld => ?_); refine with_tabW partitalaw05_MeterCut.tab19 partitalaw05_MeterCut.bits19 (fun HT_ HW_ => ?_)
               generalize w201.drew = w202 at HO_18 HO_20 HO_300002 BK292 BK299 BK302 BK309 BK313 BK322 HB hx325_0 hx325_1 hHeld ⊢
               refine pure_ (i := 1) (N := some 115) (v := ?_) (a' := ?_) #[false, true, false, false, false, false, false, false, false, false, false, false] rfl rfl (any_of HT_.out (by kernel_rfl)) (fun _ _ _ h => h) (Or.inl ⟨by rfl, ?_⟩) ?_ ?_
               rotate_left
               · intro w'
                 go_simp
                 with_reducible rfl
               rotate_left
               · simp only [Act.put, qa_, qz_, qs_, i64_w, i32_w]
                 rfl
               refine pure_ (i := 2) (N := some 116) (v := ?_) (a' := ?_) #[false, true, true, false, false, false, false, false, false, false, false, false] rfl rfl (any_of HT_.out (by kernel_rfl)) (fun _ _ _ h => h) (Or.inl ⟨by rfl, ?_⟩) ?_ ?_
               rotate_left
               · intro w'
                 go_simp
                 with_reducible rfl
               rotate_left
               · simp only [Act.put, qa_, qz_, qs_, i64_w, i32_w]
                 rfl
               refine pure_ (i := 3) (N := some 117) (v := ?_) (a' := ?_) #[false, true, true, true, false, false, false, false, false, false, false, false] rfl rfl (any_of HT_.out (by kernel_rfl)) (fun _ _ _ h => h) (Or.inl ⟨by rfl, ?_⟩) ?_ ?_
               rotate_left
               · intro w'
                 go_simp
                 with_reducible rfl
               rotate_left
               · simp only [Act.put, qa_, qz_, qs_, i64_w, i32_w]
                 rfl
               refine take_ (i := 0) (N := some 114) (v := ?_) (a' := ?_) #[true, true, true, true, false, false, false, false, false, false, false, false] rfl rfl (take_ofW HT_.out HW_.out (by kernel_rfl)) (fun _ _ _ h => h) (Or.inl ⟨by rfl, ?_⟩) hHeld ?_ ?_
               rotate_left
               · rintro w' ⟨s0, s1, s2, s3⟩
                 go_simp
                 with_reducible rfl
               rotate_left
               · simp only [Act.put, qa_, qz_, qs_, i64_w, i32_w]
                 rfl
               refine take_ (i := 4) (N := some 118) (v := ?_) (a' := ?_) #[true, true, true, true, true, false, false, false, false, false, false, false] rfl rfl (take_ofW HT_.out HW_.out (by kernel_rfl)) (fun _ _ _ h => h) (Or.inl ⟨by rfl, ?_⟩) hHeld ?_ ?_
               rotate_left
               · rintro w' ⟨s0, s1, s2, s3⟩
                 go_simp
                 with_reducible rfl
               rotate_left
               · simp only [Act.put, qa_, qz_, qs_, i64_w, i32_w]
                 rfl
               refine join_ (σ := Nat) 2 #[true, true, true, true, true, true, true, true, true, true, false, false] (fun s_ => [(119, .tuple #[.agg #[.int .i64 t326, .int .i64 t327], .int .i64 t328]), (26, .pointer (some ⟨s_, 0, none⟩)), (113, .tuple #[.agg #[.int .i64 t326, .int .i64 t327], .int .i64 t328]), (120, .agg #[.int .i64 t326, .int .i64 t327]), (121, .int .i64 t328)]) (fun s_ w' => (w'.cell? ⟨gb322, 0, none⟩ = some (.int .i64 x323000_2) ∧ w'.cell? ⟨gb322, 1, none⟩ = some (.int .i64 x323001_2) ∧ w'.cell? (ad325.add ((x23_2).toNat * 2)) = some (.int .i64 ((rd_T26 t314 x23_2).f0)) ∧ w'.cell? ⟨(ad325.add ((x23_2).toNat * 2)).block, (ad325.add ((x23_2).toNat * 2)).off + 1, none⟩ = some (.int .i64 ((rd_T26 t314 x23_2).f1))) ∧ (Kd.R k26 26 w' w.heap.size (fun k_ => some k_ ≠ (v319 : Value).ownBlock ∧ k_ ≠ gb302 ∧ k_ ≠ gb309 ∧ k_ ≠ gb313 ∧ k_ ≠ gb322 ∧ k_ ≠ s_) (.slice (some ad325) t314.length co189) t314) ∧ (Kd.R k26 26 w' w.heap.size (fun k_ => some k_ ≠ (.slice (some ad325) t314.length co189 : Value).ownBlock ∧ k_ ≠ gb302 ∧ k_ ≠ gb309 ∧ k_ ≠ gb313 ∧ k_ ≠ gb322 ∧ k_ ≠ s_) v319 t318) ∧ (Kd.R (Kd.int .i64) 3 w' w.heap.size (fun _ => True) (.slice Ao137 t296.length co137) t296) ∧ (w'.heap[gb292]? = some (.cells #[.int .i64 a0_0, .int .i64 a0_1, .slice A0_2 l0_2.length c0_2] 24 (0, 0))) ∧ (w'.heap[gb299]? = some (.cells #[.int .i64 t294, .int .i64 t295, .slice Ao137 t296.length co137] 24 (0, 0))) ∧ (w'.heap[gb302]? = some (.cells #[.int .i64 t300, .int .i64 t301] 26 (0, 0))) ∧ (w'.heap[gb309]? = some (.cells #[.int .i64 t306, .int .i64 t307] 26 (0, 0))) ∧ (w'.heap[gb313]? = some (.cells #[.int .i64 t310, .int .i64 t311] 26 (0, 0))) ∧ (w'.heap[gb322]? = some (.cells #[.int .i64 x323000_2, .int .i64 x323001_2] 26 (0, 0))) ∧ (w'.heap[s_]? = some (.cells #[.int .i64 0, .int .i64 0] 26 (0, 0))) ∧ (w.heap.size ≤ s_) ∧ (w.heap.size ≤ s_) ∧ (gb292 ≠ s_) ∧ (s_ ≠ gb292) ∧ (gb299 ≠ s_) ∧ (s_ ≠ gb299) ∧ (gb302 ≠ s_) ∧ (s_ ≠ gb302) ∧ (gb309 ≠ s_) ∧ (s_ ≠ gb309) ∧ (gb313 ≠ s_) ∧ (s_ ≠ gb313) ∧ (gb322 ≠ s_) ∧ (s_ ≠ gb322) ∧ (Below w.heap.size w w')) ?_ ?_
               rotate_left
               · intro hCont
                 refine two_ (i := 5) (j := 9) (Ni := some 119) (Nj := some 26) #[true, true, true, true, true, true, false, false, false, false, false, false] #[true, true, true, true, true, false, false, false, false, true, false, false] rfl rfl rfl rfl (two_of HT_.out (by kernel_rfl)) (by decide) (by decide) (fun K hK => ?_) (fun K hK => ?_)
                 · skip
                   refine goes_ Try.func30 (by kernel_rfl) rfl #[.agg #[.int .i64 x323000_2, .int .i64 x323001_2], .agg #[.int .i64 ((rd_T26 t314 x23_2).f0), .int .i64 ((rd_T26 t314 x23_2).f1)]] (by rfl) rfl rfl (by (try simp only [List.map_toArray, List.map_cons, List.map_nil]); first | done | rfl | (simp only [List.length_drop, List.length_take]; rfl)) ?_
                   with_reducible refine (ratio_Add.calls x323000_2 x323001_2 ((rd_T26 t314 x23_2).f0) ((rd_T26 t314 x23_2).f1) t326 t327 t328 _ A187.out).mono ?_
                   rintro e w203 ⟨rfl, hb⟩
                   have HS2_ := (hb.cell (World.block_lt_of_cell? _ _ (hHeld.2.2.1))).trans (hHeld.2.2.1)
                   have HS3_ := (hb.cell (World.block_lt_of_cell? _ _ (hHeld.2.2.2))).trans (hHeld.2.2.2)
                   refine ⟨_, rfl, ?_⟩
                   replace HO_18 := qE HO_18 hb
                   replace HO_20 := qE HO_20 hb
                   replace HO_300002 := qE HO_300002 hb
                   replace BK292 := qD BK292 hb
                   replace BK299 := qD BK299 hb
                   replace BK302 := qD BK302 hb
                   replace BK309 := qD BK309 hb
                   replace BK313 := qD BK313 hb
                   replace BK322 := qD BK322 hb
                   replace HB := Aside0.mk (below_step (qW HB.out) hb)
                   (try clear hb)
                   (try clear hb2)
                   (try clear hk)
                   (try clear hi)
                   refine hK.out _ _ ⟨(blk_cell BK322.out 0).trans rfl, (blk_cell BK322.out 1).trans rfl, HS2_, HS3_⟩ (fun hHeld => ?_)
                   clear hK K
                   refine norm_ (a' := ?_) ?_ ?_
                   rotate_left
                   · show Act.put _ (some 119) _ = _
                     simp only [Act.put, qa_, qz_, qs_, i64_w, i32_w]
                     rfl
                   refine pure_ (i := 6) (N := some 113) (v := ?_) (a' := ?_) #[true, true, true, true, true, true, true, false, false, false, false, false] rfl rfl (any_of HT_.out (by kernel_rfl)) (fun _ _ _ h => h) (Or.inl ⟨by rfl, ?_⟩) ?_ ?_
                   rotate_left
                   · intro w'
                     go_simp
                     with_reducible rfl
                   rotate_left
                   · simp only [Act.put, qa_, qz_, qs_, i64_w, i32_w]
                     rfl
                   refine pure_ (i := 7) (N := some 120) (v := ?_) (a' := ?_) #[true, true, true, true, true, true, true, true, false, false, false, false] rfl rfl (any_of HT_.out (by kernel_rfl)) (fun _ _ _ h => h) (Or.inl ⟨by rfl, ?_⟩) ?_ ?_
                   rotate_left
                   · intro w'
                     go_simp
                     with_reducible rfl
                   rotate_left
                   · simp only [Act.put, qa_, qz_, qs_, i64_w, i32_w]
                     rfl
                   refine pure_ (i := 8) (N := some 121) (v := ?_) (a' := ?_) #[true, true, true, true, true, true, true, true, true, false, false, false] rfl rfl (any_of HT_.out (by kernel_rfl)) (fun _ _ _ h => h) (Or.inl ⟨by rfl, ?_⟩) ?_ ?_
                   rotate_left
                   · intro w'
                     go_simp
                     with_reducible rfl
                   rotate_left
                   · simp only [Act.put, qa_, qz_, qs_, i64_w, i32_w]
                     rfl
                   refine one_ (i := 9) (N := some 26) #[true, true, true, true, true, true, true, true, true, true, false, false] rfl rfl (one_of HT_.out (by kernel_rfl)) (by decide) (fun K hK => ?_)
                   refine box_step ?hg (N := 26) ?hd (cs := #[.int .i64 0, .int .i64 0]) (t := 26) ?hr ?_; (case hd => rfl); (case hg => rfl); (case hr => first | (go_simp; done) | (go_simp; rfl))
                   intro gb329 hg w204 hbox hb
                   have HS2_ := (hb.cell (World.block_lt_of_cell? _ _ (hHeld.2.2.1))).trans (hHeld.2.2.1)
                   have HS3_ := (hb.cell (World.block_lt_of_cell? _ _ (hHeld.2.2.2))).trans (hHeld.2.2.2)
                   replace HO_18 := Aside0.mk (Kd.R_below (Kd.R_elderB (qR HO_18.out) gb329 (Nat.le_of_eq hg.symm)) hb)
                   replace HO_20 := Aside0.mk (Kd.R_below (Kd.R_elderB (qR HO_20.out) gb329 (Nat.le_of_eq hg.symm)) hb)
                   replace HO_300002 := qE HO_300002 hb
                   have BK329 := Aside0.mk (hbox)
                   have GW329 := qT HB hg
                   have GE329 := qS HB hg
                   replace HB := Aside0.mk (below_step (qW HB.out) hb)
                   have NB292_329 := qL BK292 hg
                   have NB329_292 := qM BK292 hg
                   replace BK292 := qD BK292 hb
                   have NB299_329 := qL BK299 hg
                   have NB329_299 := qM BK299 hg
                   replace BK299 := qD BK299 hb
                   have NB302_329 := qL BK302 hg
                   have NB329_302 := qM BK302 hg
                   replace BK302 := qD BK302 hb
                   have NB309_329 := qL BK309 hg
                   have NB329_309 := qM BK309 hg
                   replace BK309 := qD BK309 hb
                   have NB313_329 := qL BK313 hg
                   have NB329_313 := qM BK313 hg
                   replace BK313 := qD BK313 hb
                   have NB322_329 := qL BK322 hg
                   have NB329_322 := qM BK322 hg
                   replace BK322 := qD BK322 hb
                   clear hb hbox hg
                   refine hK.out _ _ ⟨(blk_cell BK322.out 0).trans rfl, (blk_cell BK322.out 1).trans rfl, HS2_, HS3_⟩ (fun hHeld => ?_)
                   clear hK K
                   refine norm_ (a' := ?_) ?_ ?_
                   rotate_left
                   · show Act.put _ (some 26) _ = _
                     simp only [Act.put, qa_, qz_, qs_, i64_w, i32_w]
                     rfl
                   exact norm_ (by simp only [putAll, Act.put, qa_, qz_, qs_]) (hCont (gb329) _ ⟨hHeld, (qR (Kd.R_mono HO_18.out (fun _ hk => ⟨hk.1.1, ⟨hk.1.2.1, ⟨hk.1.2.2.1, ⟨hk.1.2.2.2.1, ⟨hk.1.2.2.2.2, hk.2⟩⟩⟩⟩⟩))), (qR (Kd.R_mono HO_20.out (fun _ hk => ⟨hk.1.1, ⟨hk.1.2.1, ⟨hk.1.2.2.1, ⟨hk.1.2.2.2.1, ⟨hk.1.2.2.2.2, hk.2⟩⟩⟩⟩⟩))), (qR HO_300002.out), (qB BK292.out), (qB BK299.out), (qB BK302.out), (qB BK309.out), (qB BK313.out), (qB BK322.out), (qB BK329.out), GW329.out, (GE329.elim id), NB292_329.out, NB329_292.out, NB299_329.out, NB329_299.out, NB302_329.out, NB329_302.out, NB309_329.out, NB329_309.out, NB313_329.out, NB329_313.out, NB322_329.out, NB329_322.out, (qW HB.out)⟩)
                 · skip
                   refine box_step ?hg (N := 26) ?hd (cs := #[.int .i64 0, .int .i64 0]) (t := 26) ?hr ?_; (case hd => rfl); (case hg => rfl); (case hr => first | (go_simp; done) | (go_simp; rfl))
                   intro gb329 hg w203 hbox hb
                   have HS2_ := (hb.cell (World.block_lt_of_cell? _ _ (hHeld.2.2.1))).trans (hHeld.2.2.1)
                   have HS3_ := (hb.cell (World.block_lt_of_cell? _ _ (hHeld.2.2.2))).trans (hHeld.2.2.2)
                   replace HO_18 := Aside0.mk (Kd.R_below (Kd.R_elderB (qR HO_18.out) gb329 (Nat.le_of_eq hg.symm)) hb)
                   replace HO_20 := Aside0.mk (Kd.R_below (Kd.R_elderB (qR HO_20.out) gb329 (Nat.le_of_eq hg.symm)) hb)
                   replace HO_300002 := qE HO_300002 hb
                   have BK329 := Aside0.mk (hbox)
                   have GW329 := qT HB hg
                   have GE329 := qS HB hg
                   replace HB := Aside0.mk (below_step (qW HB.out) hb)
                   have NB292_329 := qL BK292 hg
                   have NB329_292 := qM BK292 hg
                   replace BK292 := qD BK292 hb
                   have NB299_329 := qL BK299 hg
                   have NB329_299 := qM BK299 hg
                   replace BK299 := qD BK299 hb
                   have NB302_329 := qL BK302 hg
                   have NB329_302 := qM BK302 hg
                   replace BK302 := qD BK302 hb
                   have NB309_329 := qL BK309 hg
                   have NB329_309 := qM BK309 hg
                   replace BK309 := qD BK309 hb
                   have NB313_329 := qL BK313 hg
                   have NB329_313 := qM BK313 hg
                   replace BK313 := qD BK313 hb
                   have NB322_329 := qL BK322 hg
                   have NB329_322 := qM BK322 hg
                   replace BK322 := qD BK322 hb
                   clear hb hbox hg
                   refine hK.out _ _ ⟨(blk_cell BK322.out 0).trans rfl, (blk_cell BK322.out 1).trans rfl, HS2_, HS3_⟩ (fun hHeld => ?_)
                   clear hK K
                   refine norm_ (a' := ?_) ?_ ?_
                   rotate_left
                   · show Act.put _ (some 26) _ = _
                     simp only [Act.put, qa_, qz_, qs_, i64_w, i32_w]
                     rfl
                   refine one_ (i := 5) (N := some 119) #[true, true, true, true, true, true, false, false, false, true, false, false] rfl rfl (one_of HT_.out (by kernel_rfl)) (by decide) (fun K hK => ?_)
                   refine goes_ Try.func30 (by kernel_rfl) rfl #[.agg #[.int .i64 x323000_2, .int .i64 x323001_2], .agg #[.int .i64 ((rd_T26 t314 x23_2).f0), .int .i64 ((rd_T26 t314 x23_2).f1)]] (by rfl) rfl rfl (by (try simp only [List.map_toArray, List.map_cons, List.map_nil]); first | done | rfl | (simp only [List.length_drop, List.length_take]; rfl)) ?_
                   with_reducible refine (ratio_Add.calls x323000_2 x323001_2 ((rd_T26 t314 x23_2).f0) ((rd_T26 t314 x23_2).f1) t326 t327 t328 _ A187.out).mono ?_
                   rintro e w204 ⟨rfl, hb⟩
                   have HS2_ := (hb.cell (World.block_lt_of_cell? _ _ (hHeld.2.2.1))).trans (hHeld.2.2.1)
                   have HS3_ := (hb.cell (World.block_lt_of_cell? _ _ (hHeld.2.2.2))).trans (hHeld.2.2.2)
                   refine ⟨_, rfl, ?_⟩
                   replace HO_18 := qE HO_18 hb
                   replace HO_20 := qE HO_20 hb
                   replace HO_300002 := qE HO_300002 hb
                   replace BK292 := qD BK292 hb
                   replace BK299 := qD BK299 hb
                   replace BK302 := qD BK302 hb
                   replace BK309 := qD BK309 hb
                   replace BK313 := qD BK313 hb
                   replace BK322 := qD BK322 hb
                   replace BK329 := qD BK329 hb
                   replace HB := Aside0.mk (below_step (qW HB.out) hb)
                   (try clear hb)
                   (try clear hb2)
                   (try clear hk)
                   (try clear hi)
                   refine hK.out _ _ ⟨(blk_cell BK322.out 0).trans rfl, (blk_cell BK322.out 1).trans rfl, HS2_, HS3_⟩ (fun hHeld => ?_)
                   clear hK K
                   refine norm_ (a' := ?_) ?_ ?_
                   rotate_left
                   · show Act.put _ (some 119) _ = _
                     simp only [Act.put, qa_, qz_, qs_, i64_w, i32_w]
                     rfl
                   refine pure_ (i := 6) (N := some 113) (v := ?_) (a' := ?_) #[true, true, true, true, true, true, true, false, false, true, false, false] rfl rfl (any_of HT_.out (by kernel_rfl)) (fun _ _ _ h => h) (Or.inl ⟨by rfl, ?_⟩) ?_ ?_
                   rotate_left
                   · intro w'
                     go_simp
                     with_reducible rfl
                   rotate_left
                   · simp only [Act.put, qa_, qz_, qs_, i64_w, i32_w]
                     rfl
                   refine pure_ (i := 7) (N := some 120) (v := ?_) (a' := ?_) #[true, true, true, true, true, true, true, true, false, true, false, false] rfl rfl (any_of HT_.out (by kernel_rfl)) (fun _ _ _ h => h) (Or.inl ⟨by rfl, ?_⟩) ?_ ?_
                   rotate_left
                   · intro w'
                     go_simp
                     with_reducible rfl
                   rotate_left
                   · simp only [Act.put, qa_, qz_, qs_, i64_w, i32_w]
                     rfl
                   refine pure_ (i := 8) (N := some 121) (v := ?_) (a' := ?_) #[true, true, true, true, true, true, true, true, true, true, false, false] rfl rfl (any_of HT_.out (by kernel_rfl)) (fun _ _ _ h => h) (Or.inl ⟨by rfl, ?_⟩) ?_ ?_
                   rotate_left
                   · intro w'
                     go_simp
                     with_reducible rfl
                   rotate_left
                   · simp only [Act.put, qa_, qz_, qs_, i64_w, i32_w]
                     rfl
                   exact norm_ (by simp only [putAll, Act.put, qa_, qz_, qs_]) (hCont (gb329) _ ⟨hHeld, (qR (Kd.R_mono HO_18.out (fun _ hk => ⟨hk.1.1, ⟨hk.1.2.1, ⟨hk.1.2.2.1, ⟨hk.1.2.2.2.1, ⟨hk.1.2.2.2.2, hk.2⟩⟩⟩⟩⟩))), (qR (Kd.R_mono HO_20.out (fun _ hk => ⟨hk.1.1, ⟨hk.1.2.1, ⟨hk.1.2.2.1, ⟨hk.1.2.2.2.1, ⟨hk.1.2.2.2.2, hk.2⟩⟩⟩⟩⟩))), (qR HO_300002.out), (qB BK292.out), (qB BK299.out), (qB BK302.out), (qB BK309.out), (qB BK313.out), (qB BK322.out), (qB BK329.out), GW329.out, (GE329.elim id), NB292_329.out, NB329_292.out, NB299_329.out, NB329_299.out, NB302_329.out, NB329_302.out, NB309_329.out, NB329_309.out, NB313_329.out, NB329_313.out, NB322_329.out, NB329_322.out, (qW HB.out)⟩)
               rintro gb329 w205 ⟨hS_, h0_, h1_, h2_, h3_, h4_, h5_, h6_, h7_, h8_, h9_, h10_, h11_, h12_, h13_, h14_, h15_, h16_, h17_, h18_, h19_, h20_, h21_, h22_, h23_, h24_⟩
               replace HO_18 : Aside0 (Kd.R k26 26 w205 w.heap.size (fun k_ => some k_ ≠ (v319 : Value).ownBlock ∧ k_ ≠ gb302 ∧ k_ ≠ gb309 ∧ k_ ≠ gb313 ∧ k_ ≠ gb322 ∧ k_ ≠ gb329) (.slice (some ad325) t314.length co189) t314) := ⟨h0_⟩
               replace HO_20 : Aside0 (Kd.R k26 26 w205 w.heap.size (fun k_ => some k_ ≠ (.slice (some ad325) t314.length co189 : Value).ownBlock ∧ k_ ≠ gb302 ∧ k_ ≠ gb309 ∧ k_ ≠ gb313 ∧ k_ ≠ gb322 ∧ k_ ≠ gb329) v319 t318) := ⟨h1_⟩
               replace HO_300002 : Aside0 (Kd.R (Kd.int .i64) 3 w205 w.heap.size (fun _ => True) (.slice Ao137 t296.length co137) t296) := ⟨h2_⟩
               replace BK292 : Aside0 (w205.heap[gb292]? = some (.cells #[.int .i64 a0_0, .int .i64 a0_1, .slice A0_2 l0_2.length c0_2] 24 (0, 0))) := ⟨h3_⟩
               replace BK299 : Aside0 (w205.heap[gb299]? = some (.cells #[.int .i64 t294, .int .i64 t295, .slice Ao137 t296.length co137] 24 (0, 0))) := ⟨h4_⟩
               replace BK302 : Aside0 (w205.heap[gb302]? = some (.cells #[.int .i64 t300, .int .i64 t301] 26 (0, 0))) := ⟨h5_⟩
               replace BK309 : Aside0 (w205.heap[gb309]? = some (.cells #[.int .i64 t306, .int .i64 t307] 26 (0, 0))) := ⟨h6_⟩
               replace BK313 : Aside0 (w205.heap[gb313]? = some (.cells #[.int .i64 t310, .int .i64 t311] 26 (0, 0))) := ⟨h7_⟩
               replace BK322 : Aside0 (w205.heap[gb322]? = some (.cells #[.int .i64 x323000_2, .int .i64 x323001_2] 26 (0, 0))) := ⟨h8_⟩
               have BK329 : Aside0 (w205.heap[gb329]? = some (.cells #[.int .i64 0, .int .i64 0] 26 (0, 0))) := ⟨h9_⟩
               have GW329 : Aside0 (w.heap.size ≤ gb329) := ⟨h10_⟩
               have GE329 : Nonempty (w.heap.size ≤ gb329) := ⟨h11_⟩
               have NB292_329 : Aside0 (gb292 ≠ gb329) := ⟨h12_⟩
               have NB329_292 : Aside0 (gb329 ≠ gb292) := ⟨h13_⟩
               have NB299_329 : Aside0 (gb299 ≠ gb329) := ⟨h14_⟩
               have NB329_299 : Aside0 (gb329 ≠ gb299) := ⟨h15_⟩
               have NB302_329 : Aside0 (gb302 ≠ gb329) := ⟨h16_⟩
               have NB329_302 : Aside0 (gb329 ≠ gb302) := ⟨h17_⟩
               have NB309_329 : Aside0 (gb309 ≠ gb329) := ⟨h18_⟩
               have NB329_309 : Aside0 (gb329 ≠ gb309) := ⟨h19_⟩
               have NB313_329 : Aside0 (gb313 ≠ gb329) := ⟨h20_⟩
               have NB329_313 : Aside0 (gb329 ≠ gb313) := ⟨h21_⟩
               have NB322_329 : Aside0 (gb322 ≠ gb329) := ⟨h22_⟩
               have NB329_322 : Aside0 (gb329 ≠ gb322) := ⟨h23_⟩
               replace HB : Aside0 (Below w.heap.size w w205) := ⟨h24_⟩
               clear h0_ h1_ h2_ h3_ h4_ h5_ h6_ h7_ h8_ h9_ h10_ h11_ h12_ h13_ h14_ h15_ h16_ h17_ h18_ h19_ h20_ h21_ h22_ h23_ h24_
               have hHeld : w205.cell? ⟨gb322, 0, none⟩ = some (.int .i64 x323000_2) ∧ w205.cell? ⟨gb322, 1, none⟩ = some (.int .i64 x323001_2) ∧ w205.cell? (ad325.add ((x23_2).toNat * 2)) = some (.int .i64 ((rd_T26 t314 x23_2).f0)) ∧ w205.cell? ⟨(ad325.add ((x23_2).toNat * 2)).block, (ad325.add ((x23_2).toNat * 2)).off + 1, none⟩ = some (.int .i64 ((rd_T26 t314 x23_2).f1)) := hS_
               refine norm_ (a' := ?_) ?_ ?_
               rotate_left
               · simp only [putAll, Act.put, qa_, qz_, qs_]
                 rfl
               refine one_ (i := 10) (N := none) #[true, true, true, true, true, true, true, true, true, true, true, false] rfl rfl (one_of HT_.out (by kernel_rfl)) (by decide) (fun K hK => ?_)
               have hs206 : w205.cell? ⟨gb329, 0, none⟩ = some (.int .i64 0) := (blk_cell BK329.out 0).trans rfl
               have hfs206 := blk_frozen BK329.out 0
               have hns206_0 := NB292_329.out
               have hns206_1 := NB299_329.out
               have hns206_2 := NB302_329.out
               have hns206_3 := NB309_329.out
               have hns206_4 := NB313_329.out
               have hns206_5 := NB322_329.out
               have hms206_0 := NB329_292.out
               have hms206_1 := NB329_299.out
               have hms206_2 := NB329_302.out
               have hms206_3 := NB329_309.out
               have hms206_4 := NB329_313.out
               have hms206_5 := NB329_322.out
               have hs207 : w205.cell? ⟨gb329, 1, none⟩ = some (.int .i64 0) := (blk_cell BK329.out 1).trans rfl
               have hfs207 := blk_frozen BK329.out 1
               have hns207_0 := NB292_329.out
               have hns207_1 := NB299_329.out
               have hns207_2 := NB302_329.out
               have hns207_3 := NB309_329.out
               have hns207_4 := NB313_329.out
               have hns207_5 := NB322_329.out
               have hms207_0 := NB329_292.out
               have hms207_1 := NB329_299.out
               have hms207_2 := NB329_302.out
               have hms207_3 := NB329_309.out
               have hms207_4 := NB329_313.out
               have hms207_5 := NB329_322.out
               refine skip_ (w1 := ?_) (by rfl) rfl ?_ ?_
               rotate_left
               · go_simp
                 rfl
               refine hK.out _ _ ⟨((cell_far (p := ⟨gb329, _, none⟩) NB322_329.out _).trans (((cell_far (p := ⟨gb329, _, none⟩) NB322_329.out _).trans (hHeld.1)))), ((cell_far (p := ⟨gb329, _, none⟩) NB322_329.out _).trans (((cell_far (p := ⟨gb329, _, none⟩) NB322_329.out _).trans (hHeld.2.1)))), ((cell_far (p := ⟨gb329, _, none⟩) (by first | exact Kd.own_blk (Kd.R_away HO_18.out (fun _ hk => hk.2.2.2.2.2)) | (rw [add_block]; exact Kd.own_blk (Kd.R_away HO_18.out (fun _ hk => hk.2.2.2.2.2))) | (show (Addr.add _ _).block ≠ _; rw [add_block]; exact Kd.own_blk (Kd.R_away HO_18.out (fun _ hk => hk.2.2.2.2.2))) | (dsimp only; exact Kd.own_blk (Kd.R_away HO_18.out (fun _ hk => hk.2.2.2.2.2)))) _).trans (((cell_far (p := ⟨gb329, _, none⟩) (by first | exact Kd.own_blk (Kd.R_away HO_18.out (fun _ hk => hk.2.2.2.2.2)) | (rw [add_block]; exact Kd.own_blk (Kd.R_away HO_18.out (fun _ hk => hk.2.2.2.2.2))) | (show (Addr.add _ _).block ≠ _; rw [add_block]; exact Kd.own_blk (Kd.R_away HO_18.out (fun _ hk => hk.2.2.2.2.2))) | (dsimp only; exact Kd.own_blk (Kd.R_away HO_18.out (fun _ hk => hk.2.2.2.2.2)))) _).trans (hHeld.2.2.1)))), ((cell_far (p := ⟨gb329, _, none⟩) (by first | exact Kd.own_blk (Kd.R_away HO_18.out (fun _ hk => hk.2.2.2.2.2)) | (rw [add_block]; exact Kd.own_blk (Kd.R_away HO_18.out (fun _ hk => hk.2.2.2.2.2))) | (show (Addr.add _ _).block ≠ _; rw [add_block]; exact Kd.own_blk (Kd.R_away HO_18.out (fun _ hk => hk.2.2.2.2.2))) | (dsimp only; exact Kd.own_blk (Kd.R_away HO_18.out (fun _ hk => hk.2.2.2.2.2)))) _).trans (((cell_far (p := ⟨gb329, _, none⟩) (by first | exact Kd.own_blk (Kd.R_away HO_18.out (fun _ hk => hk.2.2.2.2.2)) | (rw [add_block]; exact Kd.own_blk (Kd.R_away HO_18.out (fun _ hk => hk.2.2.2.2.2))) | (show (Addr.add _ _).block ≠ _; rw [add_block]; exact Kd.own_blk (Kd.R_away HO_18.out (fun _ hk => hk.2.2.2.2.2))) | (dsimp only; exact Kd.own_blk (Kd.R_away HO_18.out (fun _ hk => hk.2.2.2.2.2)))) _).trans (hHeld.2.2.2))))⟩ (fun hHeld => ?_)
               clear hK K
               refine pure_ (i := 11) (N := some 27) (v := ?_) (a' := ?_) #[true, true, true, true, true, true, true, true, true, true, true, true] rfl rfl (any_of HT_.out (by kernel_rfl)) (fun _ _ _ h => h) (Or.inl ⟨by rfl, ?_⟩) ?_ ?_
               rotate_left
               · intro w'
                 go_simp
                 with_reducible rfl
               rotate_left
               · simp only [Act.put, qa_, qz_, qs_, i64_w, i32_w]
                 rfl
               refine done_ (done_of HT_.out (by kernel_rfl)) ?_
               go_upto_region 20 with (fail)
               go_cut [143] (fun v143 wc => ∃ (kq : Nat) (x143_187 : Bool), v143 = .bool x143_187 ∧ Aside0 (partitalaw05_MeterCut.j2 kq t293 t314 t318 x23_2 x143_187 t294 t295 t296 t306 t307 x323000_2 x323001_2 t326 t327 = some r) ∧ Aside0 (kq ≤ k2) ∧ Aside0 (Kd.R k26 26 wc w.heap.size (fun k_ => some k_ ≠ (v319 : Value).ownBlock ∧ k_ ≠ gb302 ∧ k_ ≠ gb309 ∧ k_ ≠ gb313 ∧ k_ ≠ gb322 ∧ k_ ≠ gb329) (.slice (some ad325) t314.length co189) t314) ∧ Aside0 (Kd.R k26 26 wc w.heap.size (fun k_ => some k_ ≠ ((.slice (some ad325) t314.length co189) : Value).ownBlock ∧ k_ ≠ gb302 ∧ k_ ≠ gb309 ∧ k_ ≠ gb313 ∧ k_ ≠ gb322 ∧ k_ ≠ gb329) v319 t318) ∧ Aside0 (Kd.R (Kd.int .i64) 3 wc w.heap.size (fun _ => True) (.slice Ao137 t296.length co137) t296) ∧ Aside0 (wc.heap[gb292]? = some (.cells #[.int .i64 a0_0, .int .i64 a0_1, (.slice A0_2 l0_2.length c0_2)] 24 (0, 0))) ∧ Aside0 (wc.heap[gb299]? = some (.cells #[.int .i64 t294, .int .i64 t295, (.slice Ao137 t296.length co137)] 24 (0, 0))) ∧ Aside0 (wc.heap[gb302]? = some (.cells #[.int .i64 t300, .int .i64 t301] 26 (0, 0))) ∧ Aside0 (wc.heap[gb309]? = some (.cells #[.int .i64 t306, .int .i64 t307] 26 (0, 0))) ∧ Aside0 (wc.heap[gb313]? = some (.cells #[.int .i64 t310, .int .i64 t311] 26 (0, 0))) ∧ Aside0 (wc.heap[gb322]? = some (.cells #[.int .i64 x323000_2, .int .i64 x323001_2] 26 (0, 0))) ∧ Aside0 (wc.heap[gb329]? = some (.cells #[.int .i64 t326, .int .i64 t327] 26 (0, 0))) ∧ Aside0 (Below w.heap.size w wc))
               case first =>
                have H := HC188.out
                clear HC188
                by_cases c208 : t324 = 0
                · rw [if_pos c208] at H
                  have c208b0 : (t324 == 0) = true := beq_iff_eq.mpr c208
                  have c208b1 : (t324 != 0) = false := bne_eq_false_iff_eq.mpr c208
                  clear c208
                  (first | rw [c208b0] | (simp only [i64_w, i32_w]; rw [c208b0]) | skip)
                  by_cases c209 : t328 = 0
                  · rw [if_pos c209] at H
                    have c209b0 : (t328 == 0) = true := beq_iff_eq.mpr c209
                    have c209b1 : (t328 != 0) = false := bne_eq_false_iff_eq.mpr c209
                    clear c209
                    by_cases c210 : ((rd_T26 t314 x23_2).f0) ≤ 0
                    · rw [if_pos c210] at H
                      have c210b0 : decide (((rd_T26 t314 x23_2).f0) ≤ 0) = true := decide_eq_true c210
                      clear c210
                      have H' := Aside0.mk H
                      clear H
                      have p330 : 0 ≤ (x23_2 : Int) := of_decide_eq_true (by first | (with_reducible assumption) | assumption)
                      have q330 : x23_2 < (t314.length : Int) := of_decide_eq_true (by first | (with_reducible assumption) | assumption)
                      obtain ⟨ad330, e330, hx330_0, hx330_1⟩ := at_T26 (Kd.R_reads' HO_18.out).2.2 x23_2 p330 q330
                      obtain rfl : ad325 = ad330 := (by injection e330)
                      have hn330_0 : ad325.block ≠ gb329 := Kd.own_blk (by first | exact Kd.R_ne HO_18.out BK329.out (by decide) | (intro he_; have z_ := HO_18.out.1 _ he_.symm; simp at z_))
                      have hn330_1 : ad325.block ≠ gb329 := Kd.own_blk (by first | exact Kd.R_ne HO_18.out BK329.out (by decide) | (intro he_; have z_ := HO_18.out.1 _ he_.symm; simp at z_))
                      replace hx330_0 := (cell_far (p := ⟨gb329, 0, none⟩) (by first | (rw [add_block]; exact hn330_0) | (show (Addr.add _ _).block ≠ _; rw [add_block]; exact hn330_0) | exact hn330_0) (.int .i64 t326)).trans hx330_0
                      replace hx330_1 := (cell_far (p := ⟨gb329, 0, none⟩) (by first | (rw [add_block]; exact hn330_0) | (show (Addr.add _ _).block ≠ _; rw [add_block]; exact hn330_0) | exact hn330_0) (.int .i64 t326)).trans hx330_1
                      replace hx330_0 := (cell_far (p := ⟨gb329, 1, none⟩) (by first | (rw [add_block]; exact hn330_1) | (show (Addr.add _ _).block ≠ _; rw [add_block]; exact hn330_1) | exact hn330_1) (.int .i64 t327)).trans hx330_0
                      replace hx330_1 := (cell_far (p := ⟨gb329, 1, none⟩) (by first | (rw [add_block]; exact hn330_1) | (show (Addr.add _ _).block ≠ _; rw [add_block]; exact hn330_1) | exact hn330_1) (.int .i64 t327)).trans hx330_1
                      clear hn330_0
                      clear hn330_1
                      replace p330 := eq_true p330
                      replace q330 := eq_true q330
                      go_wp2
                      go_meet
                      case rel => exact ⟨_, (true), (by first | rfl | (simp; done) | (simp [*]; done)), H', ⟨by have := HJ128.out; have := HK2.out; first | omega | exact Nat.le_refl _⟩, ⟨by (with_reducible repeat (first | apply Kd.R_alloc | apply Kd.R_drewN | apply Kd.R_drew)); exact Kd.R_mono (Kd.R_far (p := ⟨gb329, 1, none⟩) (Kd.R_far (p := ⟨gb329, 0, none⟩) (Kd.R_mono HO_18.out (fun k_ hk => (⟨hk, hk.2.2.2.2.2⟩ : _ ∧ k_ ≠ gb329))) (fun _ hk => hk.2) (.int .i64 t326)) (fun _ hk => hk.2) (.int .i64 t327)) (fun _ hk => ⟨hk.1.1, ⟨hk.1.2.1, ⟨hk.1.2.2.1, ⟨hk.1.2.2.2.1, ⟨hk.1.2.2.2.2.1, hk.1.2.2.2.2.2⟩⟩⟩⟩⟩)⟩, ⟨by (with_reducible repeat (first | apply Kd.R_alloc | apply Kd.R_drewN | apply Kd.R_drew)); exact Kd.R_mono (Kd.R_far (p := ⟨gb329, 1, none⟩) (Kd.R_far (p := ⟨gb329, 0, none⟩) (Kd.R_mono HO_20.out (fun k_ hk => (⟨hk, hk.2.2.2.2.2⟩ : _ ∧ k_ ≠ gb329))) (fun _ hk => hk.2) (.int .i64 t326)) (fun _ hk => hk.2) (.int .i64 t327)) (fun _ hk => ⟨hk.1.1, ⟨hk.1.2.1, ⟨hk.1.2.2.1, ⟨hk.1.2.2.2.1, ⟨hk.1.2.2.2.2.1, hk.1.2.2.2.2.2⟩⟩⟩⟩⟩)⟩, ⟨by (with_reducible repeat (first | apply Kd.R_alloc | apply Kd.R_drewN | apply Kd.R_drew)); exact Kd.R_mono (Kd.R_far (p := ⟨gb329, 1, none⟩) (Kd.R_far (p := ⟨gb329, 0, none⟩) (Kd.R_types HO_300002.out BK329.out (by decide)) (fun _ hk => hk.2) (.int .i64 t326)) (fun _ hk => hk.2) (.int .i64 t327)) (fun _ hk => trivial)⟩, ⟨by (with_reducible repeat (first | refine blk_drewN ?_ _ | refine blk_drew ?_ | refine blk_alloc ?_ _)); refine blk_far ?_ NB292_329.out _; (with_reducible repeat (first | refine blk_drewN ?_ _ | refine blk_drew ?_ | refine blk_alloc ?_ _)); refine blk_far ?_ NB292_329.out _; (with_reducible repeat (first | refine blk_drewN ?_ _ | refine blk_drew ?_ | refine blk_alloc ?_ _)); exact BK292.out⟩, ⟨by (with_reducible repeat (first | refine blk_drewN ?_ _ | refine blk_drew ?_ | refine blk_alloc ?_ _)); refine blk_far ?_ NB299_329.out _; (with_reducible repeat (first | refine blk_drewN ?_ _ | refine blk_drew ?_ | refine blk_alloc ?_ _)); refine blk_far ?_ NB299_329.out _; (with_reducible repeat (first | refine blk_drewN ?_ _ | refine blk_drew ?_ | refine blk_alloc ?_ _)); exact BK299.out⟩, ⟨by (with_reducible repeat (first | refine blk_drewN ?_ _ | refine blk_drew ?_ | refine blk_alloc ?_ _)); refine blk_far ?_ NB302_329.out _; (with_reducible repeat (first | refine blk_drewN ?_ _ | refine blk_drew ?_ | refine blk_alloc ?_ _)); refine blk_far ?_ NB302_329.out _; (with_reducible repeat (first | refine blk_drewN ?_ _ | refine blk_drew ?_ | refine blk_alloc ?_ _)); exact BK302.out⟩, ⟨by (with_reducible repeat (first | refine blk_drewN ?_ _ | refine blk_drew ?_ | refine blk_alloc ?_ _)); refine blk_far ?_ NB309_329.out _; (with_reducible repeat (first | refine blk_drewN ?_ _ | refine blk_drew ?_ | refine blk_alloc ?_ _)); refine blk_far ?_ NB309_329.out _; (with_reducible repeat (first | refine blk_drewN ?_ _ | refine blk_drew ?_ | refine blk_alloc ?_ _)); exact BK309.out⟩, ⟨by (with_reducible repeat (first | refine blk_drewN ?_ _ | refine blk_drew ?_ | refine blk_alloc ?_ _)); refine blk_far ?_ NB313_329.out _; (with_reducible repeat (first | refine blk_drewN ?_ _ | refine blk_drew ?_ | refine blk_alloc ?_ _)); refine blk_far ?_ NB313_329.out _; (with_reducible repeat (first | refine blk_drewN ?_ _ | refine blk_drew ?_ | refine blk_alloc ?_ _)); exact BK313.out⟩, ⟨by (with_reducible repeat (first | refine blk_drewN ?_ _ | refine blk_drew ?_ | refine blk_alloc ?_ _)); refine blk_far ?_ NB322_329.out _; (with_reducible repeat (first | refine blk_drewN ?_ _ | refine blk_drew ?_ | refine blk_alloc ?_ _)); refine blk_far ?_ NB322_329.out _; (with_reducible repeat (first | refine blk_drewN ?_ _ | refine blk_drew ?_ | refine blk_alloc ?_ _)); exact BK322.out⟩, ⟨by (with_reducible repeat (first | refine blk_drewN ?_ _ | refine blk_drew ?_ | refine blk_alloc ?_ _)); refine blk_put (cs := #[.int .i64 t326, .int .i64 0]) ?_ 1 _ rfl; (with_reducible repeat (first | refine blk_drewN ?_ _ | refine blk_drew ?_ | refine blk_alloc ?_ _)); refine blk_put (cs := #[.int .i64 0, .int .i64 0]) ?_ 0 _ rfl; (with_reducible repeat (first | refine blk_drewN ?_ _ | refine blk_drew ?_ | refine blk_alloc ?_ _)); exact BK329.out⟩, ⟨by exact qW HB.out⟩⟩
                    · rw [if_neg c210] at H
                      have c210b0 : decide (((rd_T26 t314 x23_2).f0) ≤ 0) = false := decide_eq_false c210
                      clear c210
                      by_cases c211 : x23_2 > 0
                      · rw [if_pos c211] at H
                        have c211b0 : decide (0 < x23_2) = true := decide_eq_true c211
                        clear c211
                        have H' := Aside0.mk H
                        clear H
                        have p330 : 0 ≤ (x23_2 : Int) := of_decide_eq_true (by first | (with_reducible assumption) | assumption)
                        have q330 : x23_2 < (t314.length : Int) := of_decide_eq_true (by first | (with_reducible assumption) | assumption)
                        obtain ⟨ad330, e330, hx330_0, hx330_1⟩ := at_T26 (Kd.R_reads' HO_18.out).2.2 x23_2 p330 q330
                        obtain rfl : ad325 = ad330 := (by injection e330)
                        have hn330_0 : ad325.block ≠ gb329 := Kd.own_blk (by first | exact Kd.R_ne HO_18.out BK329.out (by decide) | (intro he_; have z_ := HO_18.out.1 _ he_.symm; simp at z_))
                        have hn330_1 : ad325.block ≠ gb329 := Kd.own_blk (by first | exact Kd.R_ne HO_18.out BK329.out (by decide) | (intro he_; have z_ := HO_18.out.1 _ he_.symm; simp at z_))
                        replace hx330_0 := (cell_far (p := ⟨gb329, 0, none⟩) (by first | (rw [add_block]; exact hn330_0) | (show (Addr.add _ _).block ≠ _; rw [add_block]; exact hn330_0) | exact hn330_0) (.int .i64 t326)).trans hx330_0
                        replace hx330_1 := (cell_far (p := ⟨gb329, 0, none⟩) (by first | (rw [add_block]; exact hn330_0) | (show (Addr.add _ _).block ≠ _; rw [add_block]; exact hn330_0) | exact hn330_0) (.int .i64 t326)).trans hx330_1
                        replace hx330_0 := (cell_far (p := ⟨gb329, 1, none⟩) (by first | (rw [add_block]; exact hn330_1) | (show (Addr.add _ _).block ≠ _; rw [add_block]; exact hn330_1) | exact hn330_1) (.int .i64 t327)).trans hx330_0
                        replace hx330_1 := (cell_far (p := ⟨gb329, 1, none⟩) (by first | (rw [add_block]; exact hn330_1) | (show (Addr.add _ _).block ≠ _; rw [add_block]; exact hn330_1) | exact hn330_1) (.int .i64 t327)).trans hx330_1
                        clear hn330_0
                        clear hn330_1
                        replace p330 := eq_true p330
                        replace q330 := eq_true q330
                        go_wp2
                        go_meet
                        case rel => exact ⟨_, (decide (t323 < 2)), (by first | rfl | (simp; done) | (simp [*]; done)), H', ⟨by have := HJ128.out; have := HK2.out; first | omega | exact Nat.le_refl _⟩, ⟨by (with_reducible repeat (first | apply Kd.R_alloc | apply Kd.R_drewN | apply Kd.R_drew)); exact Kd.R_mono (Kd.R_far (p := ⟨gb329, 1, none⟩) (Kd.R_far (p := ⟨gb329, 0, none⟩) (Kd.R_mono HO_18.out (fun k_ hk => (⟨hk, hk.2.2.2.2.2⟩ : _ ∧ k_ ≠ gb329))) (fun _ hk => hk.2) (.int .i64 t326)) (fun _ hk => hk.2) (.int .i64 t327)) (fun _ hk => ⟨hk.1.1, ⟨hk.1.2.1, ⟨hk.1.2.2.1, ⟨hk.1.2.2.2.1, ⟨hk.1.2.2.2.2.1, hk.1.2.2.2.2.2⟩⟩⟩⟩⟩)⟩, ⟨by (with_reducible repeat (first | apply Kd.R_alloc | apply Kd.R_drewN | apply Kd.R_drew)); exact Kd.R_mono (Kd.R_far (p := ⟨gb329, 1, none⟩) (Kd.R_far (p := ⟨gb329, 0, none⟩) (Kd.R_mono HO_20.out (fun k_ hk => (⟨hk, hk.2.2.2.2.2⟩ : _ ∧ k_ ≠ gb329))) (fun _ hk => hk.2) (.int .i64 t326)) (fun _ hk => hk.2) (.int .i64 t327)) (fun _ hk => ⟨hk.1.1, ⟨hk.1.2.1, ⟨hk.1.2.2.1, ⟨hk.1.2.2.2.1, ⟨hk.1.2.2.2.2.1, hk.1.2.2.2.2.2⟩⟩⟩⟩⟩)⟩, ⟨by (with_reducible repeat (first | apply Kd.R_alloc | apply Kd.R_drewN | apply Kd.R_drew)); exact Kd.R_mono (Kd.R_far (p := ⟨gb329, 1, none⟩) (Kd.R_far (p := ⟨gb329, 0, none⟩) (Kd.R_types HO_300002.out BK329.out (by decide)) (fun _ hk => hk.2) (.int .i64 t326)) (fun _ hk => hk.2) (.int .i64 t327)) (fun _ hk => trivial)⟩, ⟨by (with_reducible repeat (first | refine blk_drewN ?_ _ | refine blk_drew ?_ | refine blk_alloc ?_ _)); refine blk_far ?_ NB292_329.out _; (with_reducible repeat (first | refine blk_drewN ?_ _ | refine blk_drew ?_ | refine blk_alloc ?_ _)); refine blk_far ?_ NB292_329.out _; (with_reducible repeat (first | refine blk_drewN ?_ _ | refine blk_drew ?_ | refine blk_alloc ?_ _)); exact BK292.out⟩, ⟨by (with_reducible repeat (first | refine blk_drewN ?_ _ | refine blk_drew ?_ | refine blk_alloc ?_ _)); refine blk_far ?_ NB299_329.out _; (with_reducible repeat (first | refine blk_drewN ?_ _ | refine blk_drew ?_ | refine blk_alloc ?_ _)); refine blk_far ?_ NB299_329.out _; (with_reducible repeat (first | refine blk_drewN ?_ _ | refine blk_drew ?_ | refine blk_alloc ?_ _)); exact BK299.out⟩, ⟨by (with_reducible repeat (first | refine blk_drewN ?_ _ | refine blk_drew ?_ | refine blk_alloc ?_ _)); refine blk_far ?_ NB302_329.out _; (with_reducible repeat (first | refine blk_drewN ?_ _ | refine blk_drew ?_ | refine blk_alloc ?_ _)); refine blk_far ?_ NB302_329.out _; (with_reducible repeat (first | refine blk_drewN ?_ _ | refine blk_drew ?_ | refine blk_alloc ?_ _)); exact BK302.out⟩, ⟨by (with_reducible repeat (first | refine blk_drewN ?_ _ | refine blk_drew ?_ | refine blk_alloc ?_ _)); refine blk_far ?_ NB309_329.out _; (with_reducible repeat (first | refine blk_drewN ?_ _ | refine blk_drew ?_ | refine blk_alloc ?_ _)); refine blk_far ?_ NB309_329.out _; (with_reducible repeat (first | refine blk_drewN ?_ _ | refine blk_drew ?_ | refine blk_alloc ?_ _)); exact BK309.out⟩, ⟨by (with_reducible repeat (first | refine blk_drewN ?_ _ | refine blk_drew ?_ | refine blk_alloc ?_ _)); refine blk_far ?_ NB313_329.out _; (with_reducible repeat (first | refine blk_drewN ?_ _ | refine blk_drew ?_ | refine blk_alloc ?_ _)); refine blk_far ?_ NB313_329.out _; (with_reducible repeat (first | refine blk_drewN ?_ _ | refine blk_drew ?_ | refine blk_alloc ?_ _)); exact BK313.out⟩, ⟨by (with_reducible repeat (first | refine blk_drewN ?_ _ | refine blk_drew ?_ | refine blk_alloc ?_ _)); refine blk_far ?_ NB322_329.out _; (with_reducible repeat (first | refine blk_drewN ?_ _ | refine blk_drew ?_ | refine blk_alloc ?_ _)); refine blk_far ?_ NB322_329.out _; (with_reducible repeat (first | refine blk_drewN ?_ _ | refine blk_drew ?_ | refine blk_alloc ?_ _)); exact BK322.out⟩, ⟨by (with_reducible repeat (first | refine blk_drewN ?_ _ | refine blk_drew ?_ | refine blk_alloc ?_ _)); refine blk_put (cs := #[.int .i64 t326, .int .i64 0]) ?_ 1 _ rfl; (with_reducible repeat (first | refine blk_drewN ?_ _ | refine blk_drew ?_ | refine blk_alloc ?_ _)); refine blk_put (cs := #[.int .i64 0, .int .i64 0]) ?_ 0 _ rfl; (with_reducible repeat (first | refine blk_drewN ?_ _ | refine blk_drew ?_ | refine blk_alloc ?_ _)); exact BK329.out⟩, ⟨by exact qW HB.out⟩⟩
                      · rw [if_neg c211] at H
                        have c211b0 : decide (0 < x23_2) = false := decide_eq_false c211
                        clear c211
                        have H' := Aside0.mk H
                        clear H
                        have p330 : 0 ≤ (x23_2 : Int) := of_decide_eq_true (by first | (with_reducible assumption) | assumption)
                        have q330 : x23_2 < (t314.length : Int) := of_decide_eq_true (by first | (with_reducible assumption) | assumption)
                        obtain ⟨ad330, e330, hx330_0, hx330_1⟩ := at_T26 (Kd.R_reads' HO_18.out).2.2 x23_2 p330 q330
                        obtain rfl : ad325 = ad330 := (by injection e330)
                        have hn330_0 : ad325.block ≠ gb329 := Kd.own_blk (by first | exact Kd.R_ne HO_18.out BK329.out (by decide) | (intro he_; have z_ := HO_18.out.1 _ he_.symm; simp at z_))
                        have hn330_1 : ad325.block ≠ gb329 := Kd.own_blk (by first | exact Kd.R_ne HO_18.out BK329.out (by decide) | (intro he_; have z_ := HO_18.out.1 _ he_.symm; simp at z_))
                        replace hx330_0 := (cell_far (p := ⟨gb329, 0, none⟩) (by first | (rw [add_block]; exact hn330_0) | (show (Addr.add _ _).block ≠ _; rw [add_block]; exact hn330_0) | exact hn330_0) (.int .i64 t326)).trans hx330_0
                        replace hx330_1 := (cell_far (p := ⟨gb329, 0, none⟩) (by first | (rw [add_block]; exact hn330_0) | (show (Addr.add _ _).block ≠ _; rw [add_block]; exact hn330_0) | exact hn330_0) (.int .i64 t326)).trans hx330_1
                        replace hx330_0 := (cell_far (p := ⟨gb329, 1, none⟩) (by first | (rw [add_block]; exact hn330_1) | (show (Addr.add _ _).block ≠ _; rw [add_block]; exact hn330_1) | exact hn330_1) (.int .i64 t327)).trans hx330_0
                        replace hx330_1 := (cell_far (p := ⟨gb329, 1, none⟩) (by first | (rw [add_block]; exact hn330_1) | (show (Addr.add _ _).block ≠ _; rw [add_block]; exact hn330_1) | exact hn330_1) (.int .i64 t327)).trans hx330_1
                        clear hn330_0
                        clear hn330_1
                        replace p330 := eq_true p330
                        replace q330 := eq_true q330
                        go_wp2
                        go_meet
                        case rel => exact ⟨_, (false), (by first | rfl | (simp; done) | (simp [*]; done)), H', ⟨by have := HJ128.out; have := HK2.out; first | omega | exact Nat.le_refl _⟩, ⟨by (with_reducible repeat (first | apply Kd.R_alloc | apply Kd.R_drewN | apply Kd.R_drew)); exact Kd.R_mono (Kd.R_far (p := ⟨gb329, 1, none⟩) (Kd.R_far (p := ⟨gb329, 0, none⟩) (Kd.R_mono HO_18.out (fun k_ hk => (⟨hk, hk.2.2.2.2.2⟩ : _ ∧ k_ ≠ gb329))) (fun _ hk => hk.2) (.int .i64 t326)) (fun _ hk => hk.2) (.int .i64 t327)) (fun _ hk => ⟨hk.1.1, ⟨hk.1.2.1, ⟨hk.1.2.2.1, ⟨hk.1.2.2.2.1, ⟨hk.1.2.2.2.2.1, hk.1.2.2.2.2.2⟩⟩⟩⟩⟩)⟩, ⟨by (with_reducible repeat (first | apply Kd.R_alloc | apply Kd.R_drewN | apply Kd.R_drew)); exact Kd.R_mono (Kd.R_far (p := ⟨gb329, 1, none⟩) (Kd.R_far (p := ⟨gb329, 0, none⟩) (Kd.R_mono HO_20.out (fun k_ hk => (⟨hk, hk.2.2.2.2.2⟩ : _ ∧ k_ ≠ gb329))) (fun _ hk => hk.2) (.int .i64 t326)) (fun _ hk => hk.2) (.int .i64 t327)) (fun _ hk => ⟨hk.1.1, ⟨hk.1.2.1, ⟨hk.1.2.2.1, ⟨hk.1.2.2.2.1, ⟨hk.1.2.2.2.2.1, hk.1.2.2.2.2.2⟩⟩⟩⟩⟩)⟩, ⟨by (with_reducible repeat (first | apply Kd.R_alloc | apply Kd.R_drewN | apply Kd.R_drew)); exact Kd.R_mono (Kd.R_far (p := ⟨gb329, 1, none⟩) (Kd.R_far (p := ⟨gb329, 0, none⟩) (Kd.R_types HO_300002.out BK329.out (by decide)) (fun _ hk => hk.2) (.int .i64 t326)) (fun _ hk => hk.2) (.int .i64 t327)) (fun _ hk => trivial)⟩, ⟨by (with_reducible repeat (first | refine blk_drewN ?_ _ | refine blk_drew ?_ | refine blk_alloc ?_ _)); refine blk_far ?_ NB292_329.out _; (with_reducible repeat (first | refine blk_drewN ?_ _ | refine blk_drew ?_ | refine blk_alloc ?_ _)); refine blk_far ?_ NB292_329.out _; (with_reducible repeat (first | refine blk_drewN ?_ _ | refine blk_drew ?_ | refine blk_alloc ?_ _)); exact BK292.out⟩, ⟨by (with_reducible repeat (first | refine blk_drewN ?_ _ | refine blk_drew ?_ | refine blk_alloc ?_ _)); refine blk_far ?_ NB299_329.out _; (with_reducible repeat (first | refine blk_drewN ?_ _ | refine blk_drew ?_ | refine blk_alloc ?_ _)); refine blk_far ?_ NB299_329.out _; (with_reducible repeat (first | refine blk_drewN ?_ _ | refine blk_drew ?_ | refine blk_alloc ?_ _)); exact BK299.out⟩, ⟨by (with_reducible repeat (first | refine blk_drewN ?_ _ | refine blk_drew ?_ | refine blk_alloc ?_ _)); refine blk_far ?_ NB302_329.out _; (with_reducible repeat (first | refine blk_drewN ?_ _ | refine blk_drew ?_ | refine blk_alloc ?_ _)); refine blk_far ?_ NB302_329.out _; (with_reducible repeat (first | refine blk_drewN ?_ _ | refine blk_drew ?_ | refine blk_alloc ?_ _)); exact BK302.out⟩, ⟨by (with_reducible repeat (first | refine blk_drewN ?_ _ | refine blk_drew ?_ | refine blk_alloc ?_ _)); refine blk_far ?_ NB309_329.out _; (with_reducible repeat (first | refine blk_drewN ?_ _ | refine blk_drew ?_ | refine blk_alloc ?_ _)); refine blk_far ?_ NB309_329.out _; (with_reducible repeat (first | refine blk_drewN ?_ _ | refine blk_drew ?_ | refine blk_alloc ?_ _)); exact BK309.out⟩, ⟨by (with_reducible repeat (first | refine blk_drewN ?_ _ | refine blk_drew ?_ | refine blk_alloc ?_ _)); refine blk_far ?_ NB313_329.out _; (with_reducible repeat (first | refine blk_drewN ?_ _ | refine blk_drew ?_ | refine blk_alloc ?_ _)); refine blk_far ?_ NB313_329.out _; (with_reducible repeat (first | refine blk_drewN ?_ _ | refine blk_drew ?_ | refine blk_alloc ?_ _)); exact BK313.out⟩, ⟨by (with_reducible repeat (first | refine blk_drewN ?_ _ | refine blk_drew ?_ | refine blk_alloc ?_ _)); refine blk_far ?_ NB322_329.out _; (with_reducible repeat (first | refine blk_drewN ?_ _ | refine blk_drew ?_ | refine blk_alloc ?_ _)); refine blk_far ?_ NB322_329.out _; (with_reducible repeat (first | refine blk_drewN ?_ _ | refine blk_drew ?_ | refine blk_alloc ?_ _)); exact BK322.out⟩, ⟨by (with_reducible repeat (first | refine blk_drewN ?_ _ | refine blk_drew ?_ | refine blk_alloc ?_ _)); refine blk_put (cs := #[.int .i64 t326, .int .i64 0]) ?_ 1 _ rfl; (with_reducible repeat (first | refine blk_drewN ?_ _ | refine blk_drew ?_ | refine blk_alloc ?_ _)); refine blk_put (cs := #[.int .i64 0, .int .i64 0]) ?_ 0 _ rfl; (with_reducible repeat (first | refine blk_drewN ?_ _ | refine blk_drew ?_ | refine blk_alloc ?_ _)); exact BK329.out⟩, ⟨by exact qW HB.out⟩⟩
                  · rw [if_neg c209] at H
                    have c209b0 : (t328 == 0) = false := beq_eq_false_iff_ne.mpr c209
                    have c209b1 : (t328 != 0) = true := bne_iff_ne.mpr c209
                    have H' := Aside0.mk H
                    clear H
                    go_wp2
                    go_meet
                    case rel => exact ⟨_, (true), (by first | rfl | (simp; done) | (simp [*]; done)), H', ⟨by have := HJ128.out; have := HK2.out; first | omega | exact Nat.le_refl _⟩, ⟨by (with_reducible repeat (first | apply Kd.R_alloc | apply Kd.R_drewN | apply Kd.R_drew)); exact Kd.R_mono (Kd.R_far (p := ⟨gb329, 1, none⟩) (Kd.R_far (p := ⟨gb329, 0, none⟩) (Kd.R_mono HO_18.out (fun k_ hk => (⟨hk, hk.2.2.2.2.2⟩ : _ ∧ k_ ≠ gb329))) (fun _ hk => hk.2) (.int .i64 t326)) (fun _ hk => hk.2) (.int .i64 t327)) (fun _ hk => ⟨hk.1.1, ⟨hk.1.2.1, ⟨hk.1.2.2.1, ⟨hk.1.2.2.2.1, ⟨hk.1.2.2.2.2.1, hk.1.2.2.2.2.2⟩⟩⟩⟩⟩)⟩, ⟨by (with_reducible repeat (first | apply Kd.R_alloc | apply Kd.R_drewN | apply Kd.R_drew)); exact Kd.R_mono (Kd.R_far (p := ⟨gb329, 1, none⟩) (Kd.R_far (p := ⟨gb329, 0, none⟩) (Kd.R_mono HO_20.out (fun k_ hk => (⟨hk, hk.2.2.2.2.2⟩ : _ ∧ k_ ≠ gb329))) (fun _ hk => hk.2) (.int .i64 t326)) (fun _ hk => hk.2) (.int .i64 t327)) (fun _ hk => ⟨hk.1.1, ⟨hk.1.2.1, ⟨hk.1.2.2.1, ⟨hk.1.2.2.2.1, ⟨hk.1.2.2.2.2.1, hk.1.2.2.2.2.2⟩⟩⟩⟩⟩)⟩, ⟨by (with_reducible repeat (first | apply Kd.R_alloc | apply Kd.R_drewN | apply Kd.R_drew)); exact Kd.R_mono (Kd.R_far (p := ⟨gb329, 1, none⟩) (Kd.R_far (p := ⟨gb329, 0, none⟩) (Kd.R_types HO_300002.out BK329.out (by decide)) (fun _ hk => hk.2) (.int .i64 t326)) (fun _ hk => hk.2) (.int .i64 t327)) (fun _ hk => trivial)⟩, ⟨by (with_reducible repeat (first | refine blk_drewN ?_ _ | refine blk_drew ?_ | refine blk_alloc ?_ _)); refine blk_far ?_ NB292_329.out _; (with_reducible repeat (first | refine blk_drewN ?_ _ | refine blk_drew ?_ | refine blk_alloc ?_ _)); refine blk_far ?_ NB292_329.out _; (with_reducible repeat (first | refine blk_drewN ?_ _ | refine blk_drew ?_ | refine blk_alloc ?_ _)); exact BK292.out⟩, ⟨by (with_reducible repeat (first | refine blk_drewN ?_ _ | refine blk_drew ?_ | refine blk_alloc ?_ _)); refine blk_far ?_ NB299_329.out _; (with_reducible repeat (first | refine blk_drewN ?_ _ | refine blk_drew ?_ | refine blk_alloc ?_ _)); refine blk_far ?_ NB299_329.out _; (with_reducible repeat (first | refine blk_drewN ?_ _ | refine blk_drew ?_ | refine blk_alloc ?_ _)); exact BK299.out⟩, ⟨by (with_reducible repeat (first | refine blk_drewN ?_ _ | refine blk_drew ?_ | refine blk_alloc ?_ _)); refine blk_far ?_ NB302_329.out _; (with_reducible repeat (first | refine blk_drewN ?_ _ | refine blk_drew ?_ | refine blk_alloc ?_ _)); refine blk_far ?_ NB302_329.out _; (with_reducible repeat (first | refine blk_drewN ?_ _ | refine blk_drew ?_ | refine blk_alloc ?_ _)); exact BK302.out⟩, ⟨by (with_reducible repeat (first | refine blk_drewN ?_ _ | refine blk_drew ?_ | refine blk_alloc ?_ _)); refine blk_far ?_ NB309_329.out _; (with_reducible repeat (first | refine blk_drewN ?_ _ | refine blk_drew ?_ | refine blk_alloc ?_ _)); refine blk_far ?_ NB309_329.out _; (with_reducible repeat (first | refine blk_drewN ?_ _ | refine blk_drew ?_ | refine blk_alloc ?_ _)); exact BK309.out⟩, ⟨by (with_reducible repeat (first | refine blk_drewN ?_ _ | refine blk_drew ?_ | refine blk_alloc ?_ _)); refine blk_far ?_ NB313_329.out _; (with_reducible repeat (first | refine blk_drewN ?_ _ | refine blk_drew ?_ | refine blk_alloc ?_ _)); refine blk_far ?_ NB313_329.out _; (with_reducible repeat (first | refine blk_drewN ?_ _ | refine blk_drew ?_ | refine blk_alloc ?_ _)); exact BK313.out⟩, ⟨by (with_reducible repeat (first | refine blk_drewN ?_ _ | refine blk_drew ?_ | refine blk_alloc ?_ _)); refine blk_far ?_ NB322_329.out _; (with_reducible repeat (first | refine blk_drewN ?_ _ | refine blk_drew ?_ | refine blk_alloc ?_ _)); refine blk_far ?_ NB322_329.out _; (with_reducible repeat (first | refine blk_drewN ?_ _ | refine blk_drew ?_ | refine blk_alloc ?_ _)); exact BK322.out⟩, ⟨by (with_reducible repeat (first | refine blk_drewN ?_ _ | refine blk_drew ?_ | refine blk_alloc ?_ _)); refine blk_put (cs := #[.int .i64 t326, .int .i64 0]) ?_ 1 _ rfl; (with_reducible repeat (first | refine blk_drewN ?_ _ | refine blk_drew ?_ | refine blk_alloc ?_ _)); refine blk_put (cs := #[.int .i64 0, .int .i64 0]) ?_ 0 _ rfl; (with_reducible repeat (first | refine blk_drewN ?_ _ | refine blk_drew ?_ | refine blk_alloc ?_ _)); exact BK329.out⟩, ⟨by exact qW HB.out⟩⟩
                · rw [if_neg c208] at H
                  have c208b0 : (t324 == 0) = false := beq_eq_false_iff_ne.mpr c208
                  have c208b1 : (t324 != 0) = true := bne_iff_ne.mpr c208
                  (first | rw [c208b0] | (simp only [i64_w, i32_w]; rw [c208b0]) | skip)
                  have H' := Aside0.mk H
                  clear H
                  go_wp2
                  go_meet
                  case rel => exact ⟨_, (true), (by first | rfl | (simp; done) | (simp [*]; done)), H', ⟨by have := HJ128.out; have := HK2.out; first | omega | exact Nat.le_refl _⟩, ⟨by (with_reducible repeat (first | apply Kd.R_alloc | apply Kd.R_drewN | apply Kd.R_drew)); exact Kd.R_mono (Kd.R_far (p := ⟨gb329, 1, none⟩) (Kd.R_far (p := ⟨gb329, 0, none⟩) (Kd.R_mono HO_18.out (fun k_ hk => (⟨hk, hk.2.2.2.2.2⟩ : _ ∧ k_ ≠ gb329))) (fun _ hk => hk.2) (.int .i64 t326)) (fun _ hk => hk.2) (.int .i64 t327)) (fun _ hk => ⟨hk.1.1, ⟨hk.1.2.1, ⟨hk.1.2.2.1, ⟨hk.1.2.2.2.1, ⟨hk.1.2.2.2.2.1, hk.1.2.2.2.2.2⟩⟩⟩⟩⟩)⟩, ⟨by (with_reducible repeat (first | apply Kd.R_alloc | apply Kd.R_drewN | apply Kd.R_drew)); exact Kd.R_mono (Kd.R_far (p := ⟨gb329, 1, none⟩) (Kd.R_far (p := ⟨gb329, 0, none⟩) (Kd.R_mono HO_20.out (fun k_ hk => (⟨hk, hk.2.2.2.2.2⟩ : _ ∧ k_ ≠ gb329))) (fun _ hk => hk.2) (.int .i64 t326)) (fun _ hk => hk.2) (.int .i64 t327)) (fun _ hk => ⟨hk.1.1, ⟨hk.1.2.1, ⟨hk.1.2.2.1, ⟨hk.1.2.2.2.1, ⟨hk.1.2.2.2.2.1, hk.1.2.2.2.2.2⟩⟩⟩⟩⟩)⟩, ⟨by (with_reducible repeat (first | apply Kd.R_alloc | apply Kd.R_drewN | apply Kd.R_drew)); exact Kd.R_mono (Kd.R_far (p := ⟨gb329, 1, none⟩) (Kd.R_far (p := ⟨gb329, 0, none⟩) (Kd.R_types HO_300002.out BK329.out (by decide)) (fun _ hk => hk.2) (.int .i64 t326)) (fun _ hk => hk.2) (.int .i64 t327)) (fun _ hk => trivial)⟩, ⟨by (with_reducible repeat (first | refine blk_drewN ?_ _ | refine blk_drew ?_ | refine blk_alloc ?_ _)); refine blk_far ?_ NB292_329.out _; (with_reducible repeat (first | refine blk_drewN ?_ _ | refine blk_drew ?_ | refine blk_alloc ?_ _)); refine blk_far ?_ NB292_329.out _; (with_reducible repeat (first | refine blk_drewN ?_ _ | refine blk_drew ?_ | refine blk_alloc ?_ _)); exact BK292.out⟩, ⟨by (with_reducible repeat (first | refine blk_drewN ?_ _ | refine blk_drew ?_ | refine blk_alloc ?_ _)); refine blk_far ?_ NB299_329.out _; (with_reducible repeat (first | refine blk_drewN ?_ _ | refine blk_drew ?_ | refine blk_alloc ?_ _)); refine blk_far ?_ NB299_329.out _; (with_reducible repeat (first | refine blk_drewN ?_ _ | refine blk_drew ?_ | refine blk_alloc ?_ _)); exact BK299.out⟩, ⟨by (with_reducible repeat (first | refine blk_drewN ?_ _ | refine blk_drew ?_ | refine blk_alloc ?_ _)); refine blk_far ?_ NB302_329.out _; (with_reducible repeat (first | refine blk_drewN ?_ _ | refine blk_drew ?_ | refine blk_alloc ?_ _)); refine blk_far ?_ NB302_329.out _; (with_reducible repeat (first | refine blk_drewN ?_ _ | refine blk_drew ?_ | refine blk_alloc ?_ _)); exact BK302.out⟩, ⟨by (with_reducible repeat (first | refine blk_drewN ?_ _ | refine blk_drew ?_ | refine blk_alloc ?_ _)); refine blk_far ?_ NB309_329.out _; (with_reducible repeat (first | refine blk_drewN ?_ _ | refine blk_drew ?_ | refine blk_alloc ?_ _)); refine blk_far ?_ NB309_329.out _; (with_reducible repeat (first | refine blk_drewN ?_ _ | refine blk_drew ?_ | refine blk_alloc ?_ _)); exact BK309.out⟩, ⟨by (with_reducible repeat (first | refine blk_drewN ?_ _ | refine blk_drew ?_ | refine blk_alloc ?_ _)); refine blk_far ?_ NB313_329.out _; (with_reducible repeat (first | refine blk_drewN ?_ _ | refine blk_drew ?_ | refine blk_alloc ?_ _)); refine blk_far ?_ NB313_329.out _; (with_reducible repeat (first | refine blk_drewN ?_ _ | refine blk_drew ?_ | refine blk_alloc ?_ _)); exact BK313.out⟩, ⟨by (with_reducible repeat (first | refine blk_drewN ?_ _ | refine blk_drew ?_ | refine blk_alloc ?_ _)); refine blk_far ?_ NB322_329.out _; (with_reducible repeat (first | refine blk_drewN ?_ _ | refine blk_drew ?_ | refine blk_alloc ?_ _)); refine blk_far ?_ NB322_329.out _; (with_reducible repeat (first | refine blk_drewN ?_ _ | refine blk_drew ?_ | refine blk_alloc ?_ _)); exact BK322.out⟩, ⟨by (with_reducible repeat (first | refine blk_drewN ?_ _ | refine blk_drew ?_ | refine blk_alloc ?_ _)); refine blk_put (cs := #[.int .i64 t326, .int .i64 0]) ?_ 1 _ rfl; (with_reducible repeat (first | refine blk_drewN ?_ _ | refine blk_drew ?_ | refine blk_alloc ?_ _)); refine blk_put (cs := #[.int .i64 0, .int .i64 0]) ?_ 0 _ rfl; (with_reducible repeat (first | refine blk_drewN ?_ _ | refine blk_drew ?_ | refine blk_alloc ?_ _)); exact BK329.out⟩, ⟨by exact qW HB.out⟩⟩
               case rest =>
                clear HC188
                try clear c2
                try clear p2
                try clear c3
                try clear p3
                try clear q3
                try clear hx3
                try clear c20
                try clear c21
                try clear c30
                try clear p32
                try clear q32
                try clear hx32
                try clear p33
                try clear q33
                try clear hx33
                try clear c208
                try clear c208b0
                try clear c208b1
                try clear c209
                try clear c209b0
                try clear c209b1
                try clear c210
                try clear c210b0
                try clear c211
                try clear c211b0
                try clear hx325_0
                try clear hx325_1
                try clear hx330_0
                try clear hx330_1
                try clear p325
                try clear p330
                try clear q325
                try clear q330
                obtain ⟨kq, x143_187, rfl, HA, HJ187, HO_18, HO_20, HO_300002, BK292, BK299, BK302, BK309, BK313, BK322, BK329, HB⟩ := hcut
                cases kq with
                | zero => exact absurd HA.out (by simp [partitalaw05_MeterCut.j2])
                | succ kj187 =>
                 have H := HA.out
                 clear HA
                 simp only [partitalaw05_MeterCut.j2] at H
                 by_cases c212 : x143_187 = true
                 · subst c212
                   have H1 : none = some r := by rw [if_pos rfl] at H; exact H
                   cases H1
                 · replace c212 := Bool.eq_false_iff.mpr c212
                   subst c212
                   have H1 : (partitalaw05_MeterCut.l1 kj187 t293 t314 t318 x23_2 0 t294 t295 t296 t306 t307 x323000_2 x323001_2 t326 t327) = some r := by rw [if_neg (show ¬ (false = true) by decide)] at H; exact H
                   clear H
                   have H := H1
                   clear H1
                   have H' := Aside0.mk H
                   clear H
                   go_wp2
                   go_loopg [28] kj187 (fun kq v28 w' => ∃ (x28_4 : Int), v28 = .int .i64 x28_4 ∧ Aside0 (partitalaw05_MeterCut.l1 kq t293 t314 t318 x23_2 x28_4 t294 t295 t296 t306 t307 x323000_2 x323001_2 t326 t327 = some r) ∧ Aside0 (kq ≤ kj187) ∧ Aside0 (Kd.R k26 26 w' w.heap.size (fun k_ => some k_ ≠ (v319 : Value).ownBlock ∧ k_ ≠ gb302 ∧ k_ ≠ gb309 ∧ k_ ≠ gb313 ∧ k_ ≠ gb322 ∧ k_ ≠ gb329) (.slice (some ad325) t314.length co189) t314) ∧ Aside0 (Kd.R k26 26 w' w.heap.size (fun k_ => some k_ ≠ ((.slice (some ad325) t314.length co189) : Value).ownBlock ∧ k_ ≠ gb302 ∧ k_ ≠ gb309 ∧ k_ ≠ gb313 ∧ k_ ≠ gb322 ∧ k_ ≠ gb329) v319 t318) ∧ Aside0 (Kd.R (Kd.int .i64) 3 w' w.heap.size (fun _ => True) (.slice Ao137 t296.length co137) t296) ∧ Aside0 (w'.heap[gb292]? = some (.cells #[.int .i64 a0_0, .int .i64 a0_1, (.slice A0_2 l0_2.length c0_2)] 24 (0, 0))) ∧ Aside0 (w'.heap[gb299]? = some (.cells #[.int .i64 t294, .int .i64 t295, (.slice Ao137 t296.length co137)] 24 (0, 0))) ∧ Aside0 (w'.heap[gb302]? = some (.cells #[.int .i64 t300, .int .i64 t301] 26 (0, 0))) ∧ Aside0 (w'.heap[gb309]? = some (.cells #[.int .i64 t306, .int .i64 t307] 26 (0, 0))) ∧ Aside0 (w'.heap[gb313]? = some (.cells #[.int .i64 t310, .int .i64 t311] 26 (0, 0))) ∧ Aside0 (w'.heap[gb322]? = some (.cells #[.int .i64 x323000_2, .int .i64 x323001_2] 26 (0, 0))) ∧ Aside0 (w'.heap[gb329]? = some (.cells #[.int .i64 t326, .int .i64 t327] 26 (0, 0))) ∧ Aside0 (Below w.heap.size w w'))
                   case atStart => exact ⟨(0), (by first | rfl | (simp; done) | (simp [*]; done)), H', ⟨Nat.le_refl _⟩, ⟨by (with_reducible repeat (first | apply Kd.R_alloc | apply Kd.R_drewN | apply Kd.R_drew)); exact HO_18.out⟩, ⟨by (with_reducible repeat (first | apply Kd.R_alloc | apply Kd.R_drewN | apply Kd.R_drew)); exact HO_20.out⟩, ⟨by (with_reducible repeat (first | apply Kd.R_alloc | apply Kd.R_drewN | apply Kd.R_drew)); exact HO_300002.out⟩, ⟨by (with_reducible repeat (first | refine blk_drewN ?_ _ | refine blk_drew ?_ | refine blk_alloc ?_ _)); exact BK292.out⟩, ⟨by (with_reducible repeat (first | refine blk_drewN ?_ _ | refine blk_drew ?_ | refine blk_alloc ?_ _)); exact BK299.out⟩, ⟨by (with_reducible repeat (first | refine blk_drewN ?_ _ | refine blk_drew ?_ | refine blk_alloc ?_ _)); exact BK302.out⟩, ⟨by (with_reducible repeat (first | refine blk_drewN ?_ _ | refine blk_drew ?_ | refine blk_alloc ?_ _)); exact BK309.out⟩, ⟨by (with_reducible repeat (first | refine blk_drewN ?_ _ | refine blk_drew ?_ | refine blk_alloc ?_ _)); exact BK313.out⟩, ⟨by (with_reducible repeat (first | refine blk_drewN ?_ _ | refine blk_drew ?_ | refine blk_alloc ?_ _)); exact BK322.out⟩, ⟨by (with_reducible repeat (first | refine blk_drewN ?_ _ | refine blk_drew ?_ | refine blk_alloc ?_ _)); exact BK329.out⟩, ⟨by exact qW HB.out⟩⟩
                   case round =>
                    clear H'
                    try clear c2
                    try clear p2
                    try clear c3
                    try clear p3
                    try clear q3
                    try clear hx3
                    try clear c20
                    try clear c21
                    try clear c30
                    try clear p32
                    try clear q32
                    try clear hx32
                    try clear p33
                    try clear q33
                    try clear hx33
                    try clear c208
                    try clear c208b0
                    try clear c208b1
                    try clear c209
                    try clear c209b0
                    try clear c209b1
                    try clear c210
                    try clear c210b0
                    try clear c211
                    try clear c211b0
                    try clear c212
                    try clear hx325_0
                    try clear hx325_1
                    try clear hx330_0
                    try clear hx330_1
                    try clear p2
                    try clear p3
                    try clear p32
                    try clear p325
                    try clear p33
                    try clear p330
                    try clear q3
                    try clear q32
                    try clear q325
                    try clear q33
                    try clear q330
                    obtain ⟨x28_4, rfl, HA, HK4, HO_18, HO_20, HO_300002, BK292, BK299, BK302, BK309, BK313, BK322, BK329, HB⟩ := hrel
                    cases gk with
                    | zero => exact absurd HA.out (by simp [partitalaw05_MeterCut.l1])
                    | succ k4 =>
                     have H := HA.out
                     clear HA
                     simp only [partitalaw05_MeterCut.l1] at H
                     by_cases c213 : x28_4 < (t318.length : Int)
                     · rw [if_pos c213] at H
                       have c213b0 : decide (x28_4 < (t318.length : Int)) = true := decide_eq_true c213
                       clear c213
                       by_cases c214 : 0 ≤ x28_4
                       · rw [if_pos c214] at H
                         have c214b0 : decide (0 ≤ x28_4) = true := decide_eq_true c214
                         clear c214
                         replace H := Option.bind_eq_some_iff.mp H
                         obtain ⟨t332, A2150, H⟩ := H
                         replace H : (if t332 > 0 then ((ratio_Compare.f ((rd_T26 t318 x28_4).f0) ((rd_T26 t318 x28_4).f1) t326 t327).bind fun t334 => (if t334 < 0 then none else (partitalaw05_MeterCut.l1 k4 t293 t314 t318 x23_2 (wrap64 (x28_4 + 1)) t294 t295 t296 t306 t307 x323000_2 x323001_2 t326 t327))) else (partitalaw05_MeterCut.l1 k4 t293 t314 t318 x23_2 (wrap64 (x28_4 + 1)) t294 t295 t296 t306 t307 x323000_2 x323001_2 t326 t327)) = some r := H
                         have A215 := Aside0.mk A2150
                         clear A2150
                         by_cases c216 : t332 > 0
                         · rw [if_pos c216] at H
                           have c216b0 : decide (0 < t332) = true := decide_eq_true c216
                           clear c216
                           replace H := Option.bind_eq_some_iff.mp H
                           obtain ⟨t334, A2170, H⟩ := H
                           replace H : (if t334 < 0 then none else (partitalaw05_MeterCut.l1 k4 t293 t314 t318 x23_2 (wrap64 (x28_4 + 1)) t294 t295 t296 t306 t307 x323000_2 x323001_2 t326 t327)) = some r := H
                           have A217 := Aside0.mk A2170
                           clear A2170
                           by_cases c218 : t334 < 0
                           · rw [if_pos c218] at H
                             cases H
                           · rw [if_neg c218] at H
                             have c218b0 : decide (t334 < 0) = false := decide_eq_false c218
                             clear c218
                             have H' := Aside0.mk H
                             clear H
                             obtain ⟨Ao223, co223, eo223⟩ := Kd.R_slice HO_20.out
                             subst eo223
                             try go_wp2
                             replace HO_18 := Aside0.mk (Kd.R_drew HO_18.out)
                             replace HO_20 := Aside0.mk (Kd.R_drew HO_20.out)
                             replace HO_300002 := Aside0.mk (Kd.R_drew HO_300002.out)
                             replace BK292 := Aside0.mk (blk_drew BK292.out)
                             replace BK299 := Aside0.mk (blk_drew BK299.out)
                             replace BK302 := Aside0.mk (blk_drew BK302.out)
                             replace BK309 := Aside0.mk (blk_drew BK309.out)
                             replace BK313 := Aside0.mk (blk_drew BK313.out)
                             replace BK322 := Aside0.mk (blk_drew BK322.out)
                             replace BK329 := Aside0.mk (blk_drew BK329.out)
                             replace HB := Aside0.mk (below_drew1 HB.out)
                             have p331 : 0 ≤ (x28_4 : Int) := of_decide_eq_true (by first | (with_reducible assumption) | assumption)
                             have q331 : x28_4 < (t318.length : Int) := of_decide_eq_true (by first | (with_reducible assumption) | assumption)
                             obtain ⟨ad331, e331, hx331_0, hx331_1⟩ := at_T26 (Kd.R_reads' HO_20.out).2.2 x28_4 p331 q331
                             cases e331
                             replace p331 := eq_true p331
                             replace q331 := eq_true q331
                             have p333 : 0 ≤ (x28_4 : Int) := of_decide_eq_true (by first | (with_reducible assumption) | assumption)
                             have q333 : x28_4 < (t318.length : Int) := of_decide_eq_true (by first | (with_reducible assumption) | assumption)
                             obtain ⟨ad333, e333, hx333_0, hx333_1⟩ := at_T26 (Kd.R_reads' HO_20.out).2.2 x28_4 p333 q333
                             obtain rfl : ad331 = ad333 := (by injection e333)
                             replace p333 := eq_true p333
                             replace q333 := eq_true q333
                             refine start_ (n := 16) (S := fun w' => w'.cell? ⟨gb322, 0, none⟩ = some (.int .i64 x323000_2) ∧ w'.cell? ⟨gb322, 1, none⟩ = some (.int .i64 x323001_2) ∧ w'.cell? ⟨gb329, 0, none⟩ = some (.int .i64 t326) ∧ w'.cell? ⟨gb329, 1, none⟩ = some (.int .i64 t327) ∧ w'.cell? (ad331.add ((x28_4).toNat * 2)) = some (.int .i64 ((rd_T26 t318 x28_4).f0)) ∧ w'.cell? ⟨(ad331.add ((x28_4).toNat * 2)).block, (ad331.add ((x28_4).toNat * 2)).off + 1, none⟩ = some (.int .i64 ((rd_T26 t318 x28_4).f1)) ∧ w'.cell? (ad331.add ((x28_4).toNat * 2)) = some (.int .i64 ((rd_T26 t318 x28_4).f0)) ∧ w'.cell? ⟨(ad331.add ((x28_4).toNat * 2)).block, (ad331.add ((x28_4).toNat * 2)).off + 1, none⟩ = some (.int .i64 ((rd_T26 t318 x28_4).f1))) (ds := []) #[false, false, false, false, false, false, false, false, false, false, false, false, false, false, false, false] (by kernel_rfl) rfl rfl ⟨(blk_cell BK322.out 0).trans rfl, (blk_cell BK322.out 1).trans rfl, (blk_cell BK329.out 0).trans rfl, (blk_cell BK329.out 1).trans rfl, hx331_0, hx331_1, hx333_0, hx333_1⟩ (fun hHeld => ?_); refine with_tabW partitalaw05_MeterCut.tab25 partitalaw05_MeterCut.bits25 (fun HT_ HW_ => ?_)
                             generalize wr.drew = w224 at HO_18 HO_20 HO_300002 BK292 BK299 BK302 BK309 BK313 BK322 BK329 HB hx331_0 hx331_1 hx333_0 hx333_1 hHeld ⊢
                             refine pure_ (i := 0) (N := some 150) (v := ?_) (a' := ?_) #[true, false, false, false, false, false, false, false, false, false, false, false, false, false, false, false] rfl rfl (any_of HT_.out (by kernel_rfl)) (fun _ _ _ h => h) (Or.inl ⟨by rfl, ?_⟩) ?_ ?_
                             rotate_left
                             · intro w'
                               go_simp
                               with_reducible rfl
                             rotate_left
                             · simp only [Act.put, qa_, qz_, qs_, i64_w, i32_w]
                               rfl
                             refine pure_ (i := 1) (N := some 151) (v := ?_) (a' := ?_) #[true, true, false, false, false, false, false, false, false, false, false, false, false, false, false, false] rfl rfl (any_of HT_.out (by kernel_rfl)) (fun _ _ _ h => h) (Or.inl ⟨by rfl, ?_⟩) ?_ ?_
                             rotate_left
                             · intro w'
                               go_simp
                               with_reducible rfl
                             rotate_left
                             · simp only [Act.put, qa_, qz_, qs_, i64_w, i32_w]
                               rfl
                             refine pure_ (i := 2) (N := some 152) (v := ?_) (a' := ?_) #[true, true, true, false, false, false, false, false, false, false, false, false, false, false, false, false] rfl rfl (any_of HT_.out (by kernel_rfl)) (fun _ _ _ h => h) (Or.inl ⟨by rfl, ?_⟩) ?_ ?_
                             rotate_left
                             · intro w'
                               go_simp
                               with_reducible rfl
                             rotate_left
                             · simp only [Act.put, qa_, qz_, qs_, i64_w, i32_w]
                               rfl
                             refine take_ (i := 3) (N := some 153) (v := ?_) (a' := ?_) #[true, true, true, true, false, false, false, false, false, false, false, false, false, false, false, false] rfl rfl (take_ofW HT_.out HW_.out (by kernel_rfl)) (fun _ _ _ h => h) (Or.inl ⟨by rfl, ?_⟩) hHeld ?_ ?_
                             rotate_left
                             · rintro w' ⟨s0, s1, s2, s3, s4, s5, s6, s7⟩
                               go_simp
                               with_reducible rfl
                             rotate_left
                             · simp only [Act.put, qa_, qz_, qs_, i64_w, i32_w]
                               rfl
                             refine take_ (i := 4) (N := some 154) (v := ?_) (a' := ?_) #[true, true, true, true, true, false, false, false, false, false, false, false, false, false, false, false] rfl rfl (take_ofW HT_.out HW_.out (by kernel_rfl)) (fun _ _ _ h => h) (Or.inl ⟨by rfl, ?_⟩) hHeld ?_ ?_
                             rotate_left
                             · rintro w' ⟨s0, s1, s2, s3, s4, s5, s6, s7⟩
                               go_simp
                               with_reducible rfl
                             rotate_left
                             · simp only [Act.put, qa_, qz_, qs_, i64_w, i32_w]
                               rfl
                             refine one_ (i := 5) (N := some 155) #[true, true, true, true, true, true, false, false, false, false, false, false, false, false, false, false] rfl rfl (one_of HT_.out (by kernel_rfl)) (by decide) (fun K hK => ?_)
                             refine goes_ Try.func31 (by kernel_rfl) rfl #[.agg #[.int .i64 ((rd_T26 t318 x28_4).f0), .int .i64 ((rd_T26 t318 x28_4).f1)], .agg #[.int .i64 x323000_2, .int .i64 x323001_2]] (by rfl) rfl rfl (by (try simp only [List.map_toArray, List.map_cons, List.map_nil]); first | done | rfl | (simp only [List.length_drop, List.length_take]; rfl)) ?_
                             with_reducible refine (ratio_Compare.calls ((rd_T26 t318 x28_4).f0) ((rd_T26 t318 x28_4).f1) x323000_2 x323001_2 t332 _ A215.out).mono ?_
                             rintro e w225 ⟨rfl, hb⟩
                             have HS4_ := (hb.cell (World.block_lt_of_cell? _ _ (hHeld.2.2.2.2.1))).trans (hHeld.2.2.2.2.1)
                             have HS5_ := (hb.cell (World.block_lt_of_cell? _ _ (hHeld.2.2.2.2.2.1))).trans (hHeld.2.2.2.2.2.1)
                             have HS6_ := (hb.cell (World.block_lt_of_cell? _ _ (hHeld.2.2.2.2.2.2.1))).trans (hHeld.2.2.2.2.2.2.1)
                             have HS7_ := (hb.cell (World.block_lt_of_cell? _ _ (hHeld.2.2.2.2.2.2.2))).trans (hHeld.2.2.2.2.2.2.2)
                             refine ⟨_, rfl, ?_⟩
                             replace HO_18 := qE HO_18 hb
                             replace HO_20 := qE HO_20 hb
                             replace HO_300002 := qE HO_300002 hb
                             replace BK292 := qD BK292 hb
                             replace BK299 := qD BK299 hb
                             replace BK302 := qD BK302 hb
                             replace BK309 := qD BK309 hb
                             replace BK313 := qD BK313 hb
                             replace BK322 := qD BK322 hb
                             replace BK329 := qD BK329 hb
                             replace HB := Aside0.mk (below_step (qW HB.out) hb)
                             (try clear hb)
                             (try clear hb2)
                             (try clear hk)
                             (try clear hi)
                             refine hK.out _ _ ⟨(blk_cell BK322.out 0).trans rfl, (blk_cell BK322.out 1).trans rfl, (blk_cell BK329.out 0).trans rfl, (blk_cell BK329.out 1).trans rfl, HS4_, HS5_, HS6_, HS7_⟩ (fun hHeld => ?_)
                             clear hK K
                             refine norm_ (a' := ?_) ?_ ?_
                             rotate_left
                             · show Act.put _ (some 155) _ = _
                               simp only [Act.put, qa_, qz_, qs_, i64_w, i32_w]
                               rfl
                             refine pure_ (i := 6) (N := some 156) (v := ?_) (a' := ?_) #[true, true, true, true, true, true, true, false, false, false, false, false, false, false, false, false] rfl rfl (any_of HT_.out (by kernel_rfl)) (fun _ _ _ h => h) (Or.inl ⟨by rfl, ?_⟩) ?_ ?_
                             rotate_left
                             · intro w'
                               go_simp
                               with_reducible rfl
                             rotate_left
                             · simp only [Act.put, qa_, qz_, qs_, i64_w, i32_w]
                               rfl
                             refine pure_ (i := 7) (N := some 157) (v := ?_) (a' := ?_) #[true, true, true, true, true, true, true, true, false, false, false, false, false, false, false, false] rfl rfl (any_of HT_.out (by kernel_rfl)) (fun _ _ _ h => h) (Or.inl ⟨by rfl, ?_⟩) ?_ ?_
                             rotate_left
                             · intro w'
                               go_simp
                               with_reducible rfl
                             rotate_left
                             · simp only [Act.put, qa_, qz_, qs_, i64_w, i32_w]
                               rfl
                             refine pure_ (i := 8) (N := some 158) (v := ?_) (a' := ?_) #[true, true, true, true, true, true, true, true, true, false, false, false, false, false, false, false] rfl rfl (any_of HT_.out (by kernel_rfl)) (fun _ _ _ h => h) (Or.inl ⟨by rfl, ?_⟩) ?_ ?_
                             rotate_left
                             · intro w'
                               go_simp
                               with_reducible rfl
                             rotate_left
                             · simp only [Act.put, qa_, qz_, qs_, i64_w, i32_w]
                               rfl
                             refine pure_ (i := 9) (N := some 159) (v := ?_) (a' := ?_) #[true, true, true, true, true, true, true, true, true, true, false, false, false, false, false, false] rfl rfl (any_of HT_.out (by kernel_rfl)) (fun _ _ _ h => h) (Or.inl ⟨by rfl, ?_⟩) ?_ ?_
                             rotate_left
                             · intro w'
                               go_simp
                               with_reducible rfl
                             rotate_left
                             · simp only [Act.put, qa_, qz_, qs_, i64_w, i32_w]
                               rfl
                             refine pure_ (i := 10) (N := some 160) (v := ?_) (a' := ?_) #[true, true, true, true, true, true, true, true, true, true, true, false, false, false, false, false] rfl rfl (any_of HT_.out (by kernel_rfl)) (fun _ _ _ h => h) (Or.inl ⟨by rfl, ?_⟩) ?_ ?_
                             rotate_left
                             · intro w'
                               go_simp
                               with_reducible rfl
                             rotate_left
                             · simp only [Act.put, qa_, qz_, qs_, i64_w, i32_w]
                               rfl
                             refine take_ (i := 11) (N := some 161) (v := ?_) (a' := ?_) #[true, true, true, true, true, true, true, true, true, true, true, true, false, false, false, false] rfl rfl (take_ofW HT_.out HW_.out (by kernel_rfl)) (fun _ _ _ h => h) (Or.inl ⟨by rfl, ?_⟩) hHeld ?_ ?_
                             rotate_left
                             · rintro w' ⟨s0, s1, s2, s3, s4, s5, s6, s7⟩
                               go_simp
                               with_reducible rfl
                             rotate_left
                             · simp only [Act.put, qa_, qz_, qs_, i64_w, i32_w]
                               rfl
                             refine take_ (i := 12) (N := some 162) (v := ?_) (a' := ?_) #[true, true, true, true, true, true, true, true, true, true, true, true, true, false, false, false] rfl rfl (take_ofW HT_.out HW_.out (by kernel_rfl)) (fun _ _ _ h => h) (Or.inl ⟨by rfl, ?_⟩) hHeld ?_ ?_
                             rotate_left
                             · rintro w' ⟨s0, s1, s2, s3, s4, s5, s6, s7⟩
                               go_simp
                               with_reducible rfl
                             rotate_left
                             · simp only [Act.put, qa_, qz_, qs_, i64_w, i32_w]
                               rfl
                             refine one_ (i := 13) (N := some 163) #[true, true, true, true, true, true, true, true, true, true, true, true, true, true, false, false] rfl rfl (one_of HT_.out (by kernel_rfl)) (by decide) (fun K hK => ?_)
                             refine goes_ Try.func31 (by kernel_rfl) rfl #[.agg #[.int .i64 ((rd_T26 t318 x28_4).f0), .int .i64 ((rd_T26 t318 x28_4).f1)], .agg #[.int .i64 t326, .int .i64 t327]] (by rfl) rfl rfl (by (try simp only [List.map_toArray, List.map_cons, List.map_nil]); first | done | rfl | (simp only [List.length_drop, List.length_take]; rfl)) ?_
                             with_reducible refine (ratio_Compare.calls ((rd_T26 t318 x28_4).f0) ((rd_T26 t318 x28_4).f1) t326 t327 t334 _ A217.out).mono ?_
                             rintro e w226 ⟨rfl, hb⟩
                             have HS4_ := (hb.cell (World.block_lt_of_cell? _ _ (hHeld.2.2.2.2.1))).trans (hHeld.2.2.2.2.1)
                             have HS5_ := (hb.cell (World.block_lt_of_cell? _ _ (hHeld.2.2.2.2.2.1))).trans (hHeld.2.2.2.2.2.1)
                             have HS6_ := (hb.cell (World.block_lt_of_cell? _ _ (hHeld.2.2.2.2.2.2.1))).trans (hHeld.2.2.2.2.2.2.1)
                             have HS7_ := (hb.cell (World.block_lt_of_cell? _ _ (hHeld.2.2.2.2.2.2.2))).trans (hHeld.2.2.2.2.2.2.2)
                             refine ⟨_, rfl, ?_⟩
                             replace HO_18 := qE HO_18 hb
                             replace HO_20 := qE HO_20 hb
                             replace HO_300002 := qE HO_300002 hb
                             replace BK292 := qD BK292 hb
                             replace BK299 := qD BK299 hb
                             replace BK302 := qD BK302 hb
                             replace BK309 := qD BK309 hb
                             replace BK313 := qD BK313 hb
                             replace BK322 := qD BK322 hb
                             replace BK329 := qD BK329 hb
                             replace HB := Aside0.mk (below_step (qW HB.out) hb)
                             (try clear hb)
                             (try clear hb2)
                             (try clear hk)
                             (try clear hi)
                             refine hK.out _ _ ⟨(blk_cell BK322.out 0).trans rfl, (blk_cell BK322.out 1).trans rfl, (blk_cell BK329.out 0).trans rfl, (blk_cell BK329.out 1).trans rfl, HS4_, HS5_, HS6_, HS7_⟩ (fun hHeld => ?_)
                             clear hK K
                             refine norm_ (a' := ?_) ?_ ?_
                             rotate_left
                             · show Act.put _ (some 163) _ = _
                               simp only [Act.put, qa_, qz_, qs_, i64_w, i32_w]
                               rfl
                             refine pure_ (i := 14) (N := some 164) (v := ?_) (a' := ?_) #[true, true, true, true, true, true, true, true, true, true, true, true, true, true, true, false] rfl rfl (any_of HT_.out (by kernel_rfl)) (fun _ _ _ h => h) (Or.inl ⟨by rfl, ?_⟩) ?_ ?_
                             rotate_left
                             · intro w'
                               go_simp
                               with_reducible rfl
                             rotate_left
                             · simp only [Act.put, qa_, qz_, qs_, i64_w, i32_w]
                               rfl
                             refine pure_ (i := 15) (N := some 165) (v := ?_) (a' := ?_) #[true, true, true, true, true, true, true, true, true, true, true, true, true, true, true, true] rfl rfl (any_of HT_.out (by kernel_rfl)) (fun _ _ _ h => h) (Or.inl ⟨by rfl, ?_⟩) ?_ ?_
                             rotate_left
                             · intro w'
                               go_simp
                               with_reducible rfl
                             rotate_left
                             · simp only [Act.put, qa_, qz_, qs_, i64_w, i32_w]
                               rfl
                             refine done_ (done_of HT_.out (by kernel_rfl)) ?_
                             try go_wp2
                             go_roundg k4
                             case measure => have := HJ128.out; have := HK2.out; have := HJ187.out; have := HK4.out; omega
                             case rel => exact ⟨(wrap64 (x28_4 + 1)), (by first | rfl | (simp; done) | (simp [*]; done)), H', ⟨by have := HJ128.out; have := HK2.out; have := HJ187.out; have := HK4.out; omega⟩, ⟨by (with_reducible repeat (first | apply Kd.R_alloc | apply Kd.R_drewN | apply Kd.R_drew)); exact HO_18.out⟩, ⟨by (with_reducible repeat (first | apply Kd.R_alloc | apply Kd.R_drewN | apply Kd.R_drew)); exact HO_20.out⟩, ⟨by (with_reducible repeat (first | apply Kd.R_alloc | apply Kd.R_drewN | apply Kd.R_drew)); exact HO_300002.out⟩, ⟨by (with_reducible repeat (first | refine blk_drewN ?_ _ | refine blk_drew ?_ | refine blk_alloc ?_ _)); exact BK292.out⟩, ⟨by (with_reducible repeat (first | refine blk_drewN ?_ _ | refine blk_drew ?_ | refine blk_alloc ?_ _)); exact BK299.out⟩, ⟨by (with_reducible repeat (first | refine blk_drewN ?_ _ | refine blk_drew ?_ | refine blk_alloc ?_ _)); exact BK302.out⟩, ⟨by (with_reducible repeat (first | refine blk_drewN ?_ _ | refine blk_drew ?_ | refine blk_alloc ?_ _)); exact BK309.out⟩, ⟨by (with_reducible repeat (first | refine blk_drewN ?_ _ | refine blk_drew ?_ | refine blk_alloc ?_ _)); exact BK313.out⟩, ⟨by (with_reducible repeat (first | refine blk_drewN ?_ _ | refine blk_drew ?_ | refine blk_alloc ?_ _)); exact BK322.out⟩, ⟨by (with_reducible repeat (first | refine blk_drewN ?_ _ | refine blk_drew ?_ | refine blk_alloc ?_ _)); exact BK329.out⟩, ⟨by exact qW HB.out⟩⟩
                         · rw [if_neg c216] at H
                           have c216b0 : decide (0 < t332) = false := decide_eq_false c216
                           clear c216
                           have H' := Aside0.mk H
                           clear H
                           obtain ⟨Ao227, co227, eo227⟩ := Kd.R_slice HO_20.out
                           subst eo227
                           try go_wp2
                           replace HO_18 := Aside0.mk (Kd.R_drew HO_18.out)
                           replace HO_20 := Aside0.mk (Kd.R_drew HO_20.out)
                           replace HO_300002 := Aside0.mk (Kd.R_drew HO_300002.out)
                           replace BK292 := Aside0.mk (blk_drew BK292.out)
                           replace BK299 := Aside0.mk (blk_drew BK299.out)
                           replace BK302 := Aside0.mk (blk_drew BK302.out)
                           replace BK309 := Aside0.mk (blk_drew BK309.out)
                           replace BK313 := Aside0.mk (blk_drew BK313.out)
                           replace BK322 := Aside0.mk (blk_drew BK322.out)
                           replace BK329 := Aside0.mk (blk_drew BK329.out)
                           replace HB := Aside0.mk (below_drew1 HB.out)
                           have p331 : 0 ≤ (x28_4 : Int) := of_decide_eq_true (by first | (with_reducible assumption) | assumption)
                           have q331 : x28_4 < (t318.length : Int) := of_decide_eq_true (by first | (with_reducible assumption) | assumption)
                           obtain ⟨ad331, e331, hx331_0, hx331_1⟩ := at_T26 (Kd.R_reads' HO_20.out).2.2 x28_4 p331 q331
                           cases e331
                           replace p331 := eq_true p331
                           replace q331 := eq_true q331
                           refine start_ (n := 16) (S := fun w' => w'.cell? ⟨gb322, 0, none⟩ = some (.int .i64 x323000_2) ∧ w'.cell? ⟨gb322, 1, none⟩ = some (.int .i64 x323001_2) ∧ w'.cell? (ad331.add ((x28_4).toNat * 2)) = some (.int .i64 ((rd_T26 t318 x28_4).f0)) ∧ w'.cell? ⟨(ad331.add ((x28_4).toNat * 2)).block, (ad331.add ((x28_4).toNat * 2)).off + 1, none⟩ = some (.int .i64 ((rd_T26 t318 x28_4).f1))) (ds := []) #[false, false, false, false, false, false, false, false, false, false, false, false, false, false, false, false] (by kernel_rfl) rfl rfl ⟨(blk_cell BK322.out 0).trans rfl, (blk_cell BK322.out 1).trans rfl, hx331_0, hx331_1⟩ (fun hHeld => ?_); refine with_tabW partitalaw05_MeterCut.tab25 partitalaw05_MeterCut.bits25 (fun HT_ HW_ => ?_)
                           generalize wr.drew = w228 at HO_18 HO_20 HO_300002 BK292 BK299 BK302 BK309 BK313 BK322 BK329 HB hx331_0 hx331_1 hHeld ⊢
                           refine pure_ (i := 0) (N := some 150) (v := ?_) (a' := ?_) #[true, false, false, false, false, false, false, false, false, false, false, false, false, false, false, false] rfl rfl (any_of HT_.out (by kernel_rfl)) (fun _ _ _ h => h) (Or.inl ⟨by rfl, ?_⟩) ?_ ?_
                           rotate_left
                           · intro w'
                             go_simp
                             with_reducible rfl
                           rotate_left
                           · simp only [Act.put, qa_, qz_, qs_, i64_w, i32_w]
                             rfl
                           refine pure_ (i := 1) (N := some 151) (v := ?_) (a' := ?_) #[true, true, false, false, false, false, false, false, false, false, false, false, false, false, false, false] rfl rfl (any_of HT_.out (by kernel_rfl)) (fun _ _ _ h => h) (Or.inl ⟨by rfl, ?_⟩) ?_ ?_
                           rotate_left
                           · intro w'
                             go_simp
                             with_reducible rfl
                           rotate_left
                           · simp only [Act.put, qa_, qz_, qs_, i64_w, i32_w]
                             rfl
                           refine pure_ (i := 2) (N := some 152) (v := ?_) (a' := ?_) #[true, true, true, false, false, false, false, false, false, false, false, false, false, false, false, false] rfl rfl (any_of HT_.out (by kernel_rfl)) (fun _ _ _ h => h) (Or.inl ⟨by rfl, ?_⟩) ?_ ?_
                           rotate_left
                           · intro w'
                             go_simp
                             with_reducible rfl
                           rotate_left
                           · simp only [Act.put, qa_, qz_, qs_, i64_w, i32_w]
                             rfl
                           refine take_ (i := 3) (N := some 153) (v := ?_) (a' := ?_) #[true, true, true, true, false, false, false, false, false, false, false, false, false, false, false, false] rfl rfl (take_ofW HT_.out HW_.out (by kernel_rfl)) (fun _ _ _ h => h) (Or.inl ⟨by rfl, ?_⟩) hHeld ?_ ?_
                           rotate_left
                           · rintro w' ⟨s0, s1, s2, s3⟩
                             go_simp
                             with_reducible rfl
                           rotate_left
                           · simp only [Act.put, qa_, qz_, qs_, i64_w, i32_w]
                             rfl
                           refine take_ (i := 4) (N := some 154) (v := ?_) (a' := ?_) #[true, true, true, true, true, false, false, false, false, false, false, false, false, false, false, false] rfl rfl (take_ofW HT_.out HW_.out (by kernel_rfl)) (fun _ _ _ h => h) (Or.inl ⟨by rfl, ?_⟩) hHeld ?_ ?_
                           rotate_left
                           · rintro w' ⟨s0, s1, s2, s3⟩
                             go_simp
                             with_reducible rfl
                           rotate_left
                           · simp only [Act.put, qa_, qz_, qs_, i64_w, i32_w]
                             rfl
                           refine one_ (i := 5) (N := some 155) #[true, true, true, true, true, true, false, false, false, false, false, false, false, false, false, false] rfl rfl (one_of HT_.out (by kernel_rfl)) (by decide) (fun K hK => ?_)
                           refine goes_ Try.func31 (by kernel_rfl) rfl #[.agg #[.int .i64 ((rd_T26 t318 x28_4).f0), .int .i64 ((rd_T26 t318 x28_4).f1)], .agg #[.int .i64 x323000_2, .int .i64 x323001_2]] (by rfl) rfl rfl (by (try simp only [List.map_toArray, List.map_cons, List.map_nil]); first | done | rfl | (simp only [List.length_drop, List.length_take]; rfl)) ?_
                           with_reducible refine (ratio_Compare.calls ((rd_T26 t318 x28_4).f0) ((rd_T26 t318 x28_4).f1) x323000_2 x323001_2 t332 _ A215.out).mono ?_
                           rintro e w229 ⟨rfl, hb⟩
                           have HS2_ := (hb.cell (World.block_lt_of_cell? _ _ (hHeld.2.2.1))).trans (hHeld.2.2.1)
                           have HS3_ := (hb.cell (World.block_lt_of_cell? _ _ (hHeld.2.2.2))).trans (hHeld.2.2.2)
                           refine ⟨_, rfl, ?_⟩
                           replace HO_18 := qE HO_18 hb
                           replace HO_20 := qE HO_20 hb
                           replace HO_300002 := qE HO_300002 hb
                           replace BK292 := qD BK292 hb
                           replace BK299 := qD BK299 hb
                           replace BK302 := qD BK302 hb
                           replace BK309 := qD BK309 hb
                           replace BK313 := qD BK313 hb
                           replace BK322 := qD BK322 hb
                           replace BK329 := qD BK329 hb
                           replace HB := Aside0.mk (below_step (qW HB.out) hb)
                           (try clear hb)
                           (try clear hb2)
                           (try clear hk)
                           (try clear hi)
                           refine hK.out _ _ ⟨(blk_cell BK322.out 0).trans rfl, (blk_cell BK322.out 1).trans rfl, HS2_, HS3_⟩ (fun hHeld => ?_)
                           clear hK K
                           refine norm_ (a' := ?_) ?_ ?_
                           rotate_left
                           · show Act.put _ (some 155) _ = _
                             simp only [Act.put, qa_, qz_, qs_, i64_w, i32_w]
                             rfl
                           refine pure_ (i := 6) (N := some 156) (v := ?_) (a' := ?_) #[true, true, true, true, true, true, true, false, false, false, false, false, false, false, false, false] rfl rfl (any_of HT_.out (by kernel_rfl)) (fun _ _ _ h => h) (Or.inl ⟨by rfl, ?_⟩) ?_ ?_
                           rotate_left
                           · intro w'
                             go_simp
                             with_reducible rfl
                           rotate_left
                           · simp only [Act.put, qa_, qz_, qs_, i64_w, i32_w]
                             rfl
                           refine pure_ (i := 7) (N := some 157) (v := ?_) (a' := ?_) #[true, true, true, true, true, true, true, true, false, false, false, false, false, false, false, false] rfl rfl (any_of HT_.out (by kernel_rfl)) (fun _ _ _ h => h) (Or.inl ⟨by rfl, ?_⟩) ?_ ?_
                           rotate_left
                           · intro w'
                             go_simp
                             with_reducible rfl
                           rotate_left
                           · simp only [Act.put, qa_, qz_, qs_, i64_w, i32_w]
                             rfl
                           refine pure_ (i := 8) (N := some 158) (v := undef) (a' := ?_) #[true, true, true, true, true, true, true, true, true, false, false, false, false, false, false, false] rfl rfl (any_of HT_.out (by kernel_rfl)) (fun _ _ _ h => h) (Or.inr ⟨by rfl, rfl⟩) ?_ ?_
                           rotate_left
                           · simp only [Act.put, qa_, qz_, qs_, i64_w, i32_w]
                             rfl
                           refine pure_ (i := 9) (N := some 159) (v := undef) (a' := ?_) #[true, true, true, true, true, true, true, true, true, true, false, false, false, false, false, false] rfl rfl (any_of HT_.out (by kernel_rfl)) (fun _ _ _ h => h) (Or.inr ⟨by rfl, rfl⟩) ?_ ?_
                           rotate_left
                           · simp only [Act.put, qa_, qz_, qs_, i64_w, i32_w]
                             rfl
                           refine pure_ (i := 10) (N := some 160) (v := undef) (a' := ?_) #[true, true, true, true, true, true, true, true, true, true, true, false, false, false, false, false] rfl rfl (any_of HT_.out (by kernel_rfl)) (fun _ _ _ h => h) (Or.inr ⟨by rfl, rfl⟩) ?_ ?_
                           rotate_left
                           · simp only [Act.put, qa_, qz_, qs_, i64_w, i32_w]
                             rfl
                           refine pure_ (i := 11) (N := some 161) (v := undef) (a' := ?_) #[true, true, true, true, true, true, true, true, true, true, true, true, false, false, false, false] rfl rfl (any_of HT_.out (by kernel_rfl)) (fun _ _ _ h => h) (Or.inr ⟨by rfl, rfl⟩) ?_ ?_
                           rotate_left
                           · simp only [Act.put, qa_, qz_, qs_, i64_w, i32_w]
                             rfl
                           refine pure_ (i := 12) (N := some 162) (v := undef) (a' := ?_) #[true, true, true, true, true, true, true, true, true, true, true, true, true, false, false, false] rfl rfl (any_of HT_.out (by kernel_rfl)) (fun _ _ _ h => h) (Or.inr ⟨by rfl, rfl⟩) ?_ ?_
                           rotate_left
                           · simp only [Act.put, qa_, qz_, qs_, i64_w, i32_w]
                             rfl
                           refine pure_ (i := 13) (N := some 163) (v := undef) (a' := ?_) #[true, true, true, true, true, true, true, true, true, true, true, true, true, true, false, false] rfl rfl (any_of HT_.out (by kernel_rfl)) (fun _ _ _ h => h) (Or.inr ⟨by rfl, rfl⟩) ?_ ?_
                           rotate_left
                           · simp only [Act.put, qa_, qz_, qs_, i64_w, i32_w]
                             rfl
                           refine pure_ (i := 14) (N := some 164) (v := undef) (a' := ?_) #[true, true, true, true, true, true, true, true, true, true, true, true, true, true, true, false] rfl rfl (any_of HT_.out (by kernel_rfl)) (fun _ _ _ h => h) (Or.inr ⟨by rfl, rfl⟩) ?_ ?_
                           rotate_left
                           · simp only [Act.put, qa_, qz_, qs_, i64_w, i32_w]
                             rfl
                           refine pure_ (i := 15) (N := some 165) (v := ?_) (a' := ?_) #[true, true, true, true, true, true, true, true, true, true, true, true, true, true, true, true] rfl rfl (any_of HT_.out (by kernel_rfl)) (fun _ _ _ h => h) (Or.inl ⟨by rfl, ?_⟩) ?_ ?_
                           rotate_left
                           · intro w'
                             go_simp
                             with_reducible rfl
                           rotate_left
                           · simp only [Act.put, qa_, qz_, qs_, i64_w, i32_w]
                             rfl
                           refine done_ (done_of HT_.out (by kernel_rfl)) ?_
                           try go_wp2
                           go_roundg k4
                           case measure => have := HJ128.out; have := HK2.out; have := HJ187.out; have := HK4.out; omega
                           case rel => exact ⟨(wrap64 (x28_4 + 1)), (by first | rfl | (simp; done) | (simp [*]; done)), H', ⟨by have := HJ128.out; have := HK2.out; have := HJ187.out; have := HK4.out; omega⟩, ⟨by (with_reducible repeat (first | apply Kd.R_alloc | apply Kd.R_drewN | apply Kd.R_drew)); exact HO_18.out⟩, ⟨by (with_reducible repeat (first | apply Kd.R_alloc | apply Kd.R_drewN | apply Kd.R_drew)); exact HO_20.out⟩, ⟨by (with_reducible repeat (first | apply Kd.R_alloc | apply Kd.R_drewN | apply Kd.R_drew)); exact HO_300002.out⟩, ⟨by (with_reducible repeat (first | refine blk_drewN ?_ _ | refine blk_drew ?_ | refine blk_alloc ?_ _)); exact BK292.out⟩, ⟨by (with_reducible repeat (first | refine blk_drewN ?_ _ | refine blk_drew ?_ | refine blk_alloc ?_ _)); exact BK299.out⟩, ⟨by (with_reducible repeat (first | refine blk_drewN ?_ _ | refine blk_drew ?_ | refine blk_alloc ?_ _)); exact BK302.out⟩, ⟨by (with_reducible repeat (first | refine blk_drewN ?_ _ | refine blk_drew ?_ | refine blk_alloc ?_ _)); exact BK309.out⟩, ⟨by (with_reducible repeat (first | refine blk_drewN ?_ _ | refine blk_drew ?_ | refine blk_alloc ?_ _)); exact BK313.out⟩, ⟨by (with_reducible repeat (first | refine blk_drewN ?_ _ | refine blk_drew ?_ | refine blk_alloc ?_ _)); exact BK322.out⟩, ⟨by (with_reducible repeat (first | refine blk_drewN ?_ _ | refine blk_drew ?_ | refine blk_alloc ?_ _)); exact BK329.out⟩, ⟨by exact qW HB.out⟩⟩
                       · rw [if_neg c214] at H
                         exact absurd H (by simp)
                     · rw [if_neg c213] at H
                       have c213b0 : decide (x28_4 < (t318.length : Int)) = false := decide_eq_false c213
                       clear c213
                       have H' := Aside0.mk H
                       clear H
                       obtain ⟨Ao230, co230, eo230⟩ := Kd.R_slice HO_20.out
                       subst eo230
                       have hnb231 := NB329_292.out
                       have hnc231 := NB292_329.out
                       have hnb232 := NB329_299.out
                       have hnc232 := NB299_329.out
                       have hnb233 := NB329_302.out
                       have hnc233 := NB302_329.out
                       have hnb234 := NB329_309.out
                       have hnc234 := NB309_329.out
                       have hnb235 := NB329_313.out
                       have hnc235 := NB313_329.out
                       have hnb236 := NB329_322.out
                       have hnc236 := NB322_329.out
                       have hcz237_0 := qC BK329 0 rfl
                       have hcz237_1 := qC BK329 1 rfl
                       have hfz237_0 := blk_frozen BK329.out 0
                       have hfz237_1 := blk_frozen BK329.out 1
                       have hnb238 := NB322_292.out
                       have hnc238 := NB292_322.out
                       have hnb239 := NB322_299.out
                       have hnc239 := NB299_322.out
                       have hnb240 := NB322_302.out
                       have hnc240 := NB302_322.out
                       have hnb241 := NB322_309.out
                       have hnc241 := NB309_322.out
                       have hnb242 := NB322_313.out
                       have hnc242 := NB313_322.out
                       have hcz243_0 := qC BK322 0 rfl
                       have hcz243_1 := qC BK322 1 rfl
                       have hfz243_0 := blk_frozen BK322.out 0
                       have hfz243_1 := blk_frozen BK322.out 1
                       go_wp2
                       go_roundg k4
                       case measure => have := HJ128.out; have := HK2.out; have := HJ187.out; have := HK4.out; omega
                       case rel => exact ⟨(wrap64 (x23_2 + 1)), (t326), (t327), (by first | rfl | (simp; done) | (simp [*]; done)), H', ⟨by have := HJ128.out; have := HK2.out; have := HJ187.out; have := HK4.out; omega⟩, ⟨by (with_reducible repeat (first | apply Kd.R_alloc | apply Kd.R_drewN | apply Kd.R_drew)); exact Kd.R_mono (Kd.R_far (p := ⟨gb322, 1, none⟩) (Kd.R_far (p := ⟨gb322, 0, none⟩) (Kd.R_mono HO_18.out (fun k_ hk => (⟨hk, hk.2.2.2.2.1⟩ : _ ∧ k_ ≠ gb322))) (fun _ hk => hk.2) (.int .i64 t326)) (fun _ hk => hk.2) (.int .i64 t327)) (fun _ hk => ⟨hk.1.1, ⟨hk.1.2.1, ⟨hk.1.2.2.1, ⟨hk.1.2.2.2.1, hk.1.2.2.2.2.1⟩⟩⟩⟩)⟩, ⟨by (with_reducible repeat (first | apply Kd.R_alloc | apply Kd.R_drewN | apply Kd.R_drew)); exact Kd.R_mono (Kd.R_far (p := ⟨gb322, 1, none⟩) (Kd.R_far (p := ⟨gb322, 0, none⟩) (Kd.R_mono HO_20.out (fun k_ hk => (⟨hk, hk.2.2.2.2.1⟩ : _ ∧ k_ ≠ gb322))) (fun _ hk => hk.2) (.int .i64 t326)) (fun _ hk => hk.2) (.int .i64 t327)) (fun _ hk => ⟨hk.1.1, ⟨hk.1.2.1, ⟨hk.1.2.2.1, ⟨hk.1.2.2.2.1, hk.1.2.2.2.2.1⟩⟩⟩⟩)⟩, ⟨by (with_reducible repeat (first | apply Kd.R_alloc | apply Kd.R_drewN | apply Kd.R_drew)); exact Kd.R_mono (Kd.R_far (p := ⟨gb322, 1, none⟩) (Kd.R_far (p := ⟨gb322, 0, none⟩) (Kd.R_types HO_300002.out BK322.out (by decide)) (fun _ hk => hk.2) (.int .i64 t326)) (fun _ hk => hk.2) (.int .i64 t327)) (fun _ hk => trivial)⟩, ⟨by (with_reducible repeat (first | refine blk_drewN ?_ _ | refine blk_drew ?_ | refine blk_alloc ?_ _)); refine blk_far ?_ NB292_322.out _; (with_reducible repeat (first | refine blk_drewN ?_ _ | refine blk_drew ?_ | refine blk_alloc ?_ _)); refine blk_far ?_ NB292_322.out _; (with_reducible repeat (first | refine blk_drewN ?_ _ | refine blk_drew ?_ | refine blk_alloc ?_ _)); exact BK292.out⟩, ⟨by (with_reducible repeat (first | refine blk_drewN ?_ _ | refine blk_drew ?_ | refine blk_alloc ?_ _)); refine blk_far ?_ NB299_322.out _; (with_reducible repeat (first | refine blk_drewN ?_ _ | refine blk_drew ?_ | refine blk_alloc ?_ _)); refine blk_far ?_ NB299_322.out _; (with_reducible repeat (first | refine blk_drewN ?_ _ | refine blk_drew ?_ | refine blk_alloc ?_ _)); exact BK299.out⟩, ⟨by (with_reducible repeat (first | refine blk_drewN ?_ _ | refine blk_drew ?_ | refine blk_alloc ?_ _)); refine blk_far ?_ NB302_322.out _; (with_reducible repeat (first | refine blk_drewN ?_ _ | refine blk_drew ?_ | refine blk_alloc ?_ _)); refine blk_far ?_ NB302_322.out _; (with_reducible repeat (first | refine blk_drewN ?_ _ | refine blk_drew ?_ | refine blk_alloc ?_ _)); exact BK302.out⟩, ⟨by (with_reducible repeat (first | refine blk_drewN ?_ _ | refine blk_drew ?_ | refine blk_alloc ?_ _)); refine blk_far ?_ NB309_322.out _; (with_reducible repeat (first | refine blk_drewN ?_ _ | refine blk_drew ?_ | refine blk_alloc ?_ _)); refine blk_far ?_ NB309_322.out _; (with_reducible repeat (first | refine blk_drewN ?_ _ | refine blk_drew ?_ | refine blk_alloc ?_ _)); exact BK309.out⟩, ⟨by (with_reducible repeat (first | refine blk_drewN ?_ _ | refine blk_drew ?_ | refine blk_alloc ?_ _)); refine blk_far ?_ NB313_322.out _; (with_reducible repeat (first | refine blk_drewN ?_ _ | refine blk_drew ?_ | refine blk_alloc ?_ _)); refine blk_far ?_ NB313_322.out _; (with_reducible repeat (first | refine blk_drewN ?_ _ | refine blk_drew ?_ | refine blk_alloc ?_ _)); exact BK313.out⟩, ⟨by (with_reducible repeat (first | refine blk_drewN ?_ _ | refine blk_drew ?_ | refine blk_alloc ?_ _)); refine blk_put (cs := #[.int .i64 t326, .int .i64 x323001_2]) ?_ 1 _ rfl; (with_reducible repeat (first | refine blk_drewN ?_ _ | refine blk_drew ?_ | refine blk_alloc ?_ _)); refine blk_put (cs := #[.int .i64 x323000_2, .int .i64 x323001_2]) ?_ 0 _ rfl; (with_reducible repeat (first | refine blk_drewN ?_ _ | refine blk_drew ?_ | refine blk_alloc ?_ _)); exact BK322.out⟩, ⟨by exact qW HB.out⟩⟩
             · rw [if_neg c186] at H
               exact absurd H (by simp)
           · rw [if_neg c184] at H
             have c184b0 : decide (x23_2 < (t314.length : Int)) = false := decide_eq_false c184
             clear c184
             by_cases c244 : t293 = true
             · subst c244
               have H1 : (some (x323000_2 == t306 && (x323001_2 == t307))) = some r := by rw [if_pos rfl] at H; exact H
               clear H
               have H := H1
               clear H1
               obtain rfl := Option.some.inj H
               obtain ⟨Ao245, co245, eo245⟩ := Kd.R_slice HO_18.out
               subst eo245
               have hnb246 := NB322_292.out
               have hnc246 := NB292_322.out
               have hnb247 := NB322_299.out
               have hnc247 := NB299_322.out
               have hnb248 := NB322_302.out
               have hnc248 := NB302_322.out
               have hnb249 := NB322_309.out
               have hnc249 := NB309_322.out
               have hnb250 := NB322_313.out
               have hnc250 := NB313_322.out
               have hcz251_0 := qC BK322 0 rfl
               have hcz251_1 := qC BK322 1 rfl
               have hfz251_0 := blk_frozen BK322.out 0
               have hfz251_1 := blk_frozen BK322.out 1
               have hnb252 := NB309_292.out
               have hnc252 := NB292_309.out
               have hnb253 := NB309_299.out
               have hnc253 := NB299_309.out
               have hnb254 := NB309_302.out
               have hnc254 := NB302_309.out
               have hnb255 := NB309_313.out
               have hnc255 := NB313_309.out
               have hcz256_0 := qC BK309 0 rfl
               have hcz256_1 := qC BK309 1 rfl
               have hfz256_0 := blk_frozen BK309.out 0
               have hfz256_1 := blk_frozen BK309.out 1
               go_wp2
               go_ret
               exact ⟨by first | rfl | (simp [errW_none, errW_some] <;> rfl) | (simp [*, errW_none, errW_some] <;> rfl), by exact qW HB.out⟩
             · replace c244 := Bool.eq_false_iff.mpr c244
               subst c244
               have H1 : none = some r := by rw [if_neg (show ¬ (false = true) by decide)] at H; exact H
               cases H1
 · rw [if_neg c14] at H
   cases H
end Go.Proofs.Ytbncdlnnjhadgaa.Q
