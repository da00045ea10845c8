-- Written by a program of this session (myprint.py), function by function.
import Derived.Test.YtbncdlnnjhadgaaQ0
import Derived.Test.YtbncdlnnjhadgaaQ1
import Derived.Test.YtbncdlnnjhadgaaQ2
import Derived.Test.YtbncdlnnjhadgaaQ3
import Derived.Test.YtbncdlnnjhadgaaQ5
import Derived.Test.YtbncdlnnjhadgaaQ6
namespace Go.Proofs.Ytbncdlnnjhadgaa.Q
open Go.RowKit Go.Proofs.YtbncdlnnjhadgaaW.PrintWords Go.Proofs.YtbncdlnnjhadgaaW.PrintLast Go.Proofs.YtbncdlnnjhadgaaW.PrintMore
attribute [local go_sem] max2_int min2_int max_two min_two max_three min_three max_four min_four   -- for this text's walks alone
set_option linter.unusedVariables false
set_option linter.unusedSimpArgs false

attribute [local go_sem high] eqA26
/-! ### partitalaw05_MeterBeats: function 9 -/
mutual
def partitalaw05_MeterBeats.j0 : Nat → Bool → Bool → List (S26) → Bool → Int → Int → List Int → Int → Int → Option (Bool)
 | 0, _, _, _, _, _, _, _, _, _ => none
 | k + 1, x1, x5, x7, x49, x523000, x523001, x523002, x531000, x531001 => if x49 = true then none else (partitalaw05_MeterBeats.l0 k x1 x5 x7 0 0 x523000 x523001 x523002 x531000 x531001)
def partitalaw05_MeterBeats.l0 : Nat → Bool → Bool → List (S26) → Int → Int → Int → Int → List Int → Int → Int → Option (Bool)
 | 0, _, _, _, _, _, _, _, _, _, _ => none
 | k + 1, x1, x5, x7, x11, x12, x523000, x523001, x523002, x531000, x531001 => if x12 < (x7.length : Int) then (if (wrap64 (x12 + 1)) < (x7.length : Int) then (if 0 ≤ (wrap64 (x12 + 1)) then (partitalaw05_MeterBeats.j2 k x1 x5 x7 x11 x12 x523000 x523001 x523002 x531000 x531001 ((rd_T26 x7 (wrap64 (x12 + 1))).f0) ((rd_T26 x7 (wrap64 (x12 + 1))).f1)) else (none)) else (partitalaw05_MeterBeats.j2 k x1 x5 x7 x11 x12 x523000 x523001 x523002 x531000 x531001 x531000 x531001)) else (if x5 = true then (if x11 = x523000 then (if x1 = true then (some ((x7.length : Int) == (x523002.length : Int))) else (some true)) else none) else none)
def partitalaw05_MeterBeats.j2 : Nat → Bool → Bool → List (S26) → Int → Int → Int → Int → List Int → Int → Int → Int → Int → Option (Bool)
 | 0, _, _, _, _, _, _, _, _, _, _, _, _ => none
 | k + 1, x1, x5, x7, x11, x12, x523000, x523001, x523002, x531000, x531001, x533000, x533001 => if 0 ≤ x12 then (if x12 < (x7.length : Int) then ((ratio_Sub.f x533000 x533001 ((rd_T26 x7 x12).f0) ((rd_T26 x7 x12).f1)).bind fun bt535 => ((ratio_Mul.f bt535.1 bt535.2.1 x523001 1).bind fun bt539 => (if bt535.2.2 = 0 then (if bt539.2.2 = 0 then (if bt539.2.1 = 1 then (partitalaw05_MeterBeats.j3 k x1 x5 x7 x11 x12 (decide (bt539.1 < 1)) x523000 x523001 x523002 x531000 x531001 bt539.1 bt539.2.1) else (partitalaw05_MeterBeats.j3 k x1 x5 x7 x11 x12 true x523000 x523001 x523002 x531000 x531001 bt539.1 bt539.2.1)) else (partitalaw05_MeterBeats.j3 k x1 x5 x7 x11 x12 true x523000 x523001 x523002 x531000 x531001 bt539.1 bt539.2.1)) else (partitalaw05_MeterBeats.j3 k x1 x5 x7 x11 x12 true x523000 x523001 x523002 x531000 x531001 bt539.1 bt539.2.1)))) else (none)) else (none)
def partitalaw05_MeterBeats.j3 : Nat → Bool → Bool → List (S26) → Int → Int → Bool → Int → Int → List Int → Int → Int → Int → Int → Option (Bool)
 | 0, _, _, _, _, _, _, _, _, _, _, _, _, _ => none
 | k + 1, x1, x5, x7, x11, x12, x99, x523000, x523001, x523002, x531000, x531001, x543000, x543001 => if x99 = true then none else (if x1 = true then (if x12 ≥ (x523002.length : Int) then (partitalaw05_MeterBeats.j4 k x1 x5 x7 x11 x12 true x523000 x523001 x523002 x531000 x531001 x543000 x543001) else (if 0 ≤ x12 then (if x12 < (x523002.length : Int) then (partitalaw05_MeterBeats.j4 k x1 x5 x7 x11 x12 (x543000 != (rd x523002 x12)) x523000 x523001 x523002 x531000 x531001 x543000 x543001) else (none)) else (none))) else (partitalaw05_MeterBeats.j4 k x1 x5 x7 x11 x12 false x523000 x523001 x523002 x531000 x531001 x543000 x543001))
def partitalaw05_MeterBeats.j4 : Nat → Bool → Bool → List (S26) → Int → Int → Bool → Int → Int → List Int → Int → Int → Int → Int → Option (Bool)
 | 0, _, _, _, _, _, _, _, _, _, _, _, _, _ => none
 | k + 1, x1, x5, x7, x11, x12, x117, x523000, x523001, x523002, x531000, x531001, x543000, x543001 => if x117 = true then none else (if x1 = true then (partitalaw05_MeterBeats.l0 k x1 x5 x7 (wrap64 (x11 + x543000)) (wrap64 (x12 + 1)) x523000 x523001 x523002 x531000 x531001) else (if x543000 = 1 then (partitalaw05_MeterBeats.l0 k x1 x5 x7 (wrap64 (x11 + x543000)) (wrap64 (x12 + 1)) x523000 x523001 x523002 x531000 x531001) else (if x543000 = 3 then (if (Int.tmod x523000 3) = 0 then (if x523000 < 6 then none else (if x523001 < 8 then none else (partitalaw05_MeterBeats.l0 k x1 x5 x7 (wrap64 (x11 + x543000)) (wrap64 (x12 + 1)) x523000 x523001 x523002 x531000 x531001))) else none) else none)))
end
def partitalaw05_MeterBeats.f (k : Nat) (a0_0 : Int) (a0_1 : Int) (l0_2 : List Int) (a1 : Bool) : Option (Bool) := (partitalaw05_awake.f k).bind fun t516 => ((partitalaw05_Meter.f k a0_0 a0_1 l0_2 a1).bind fun bt517 => ((meter_Beats.f k bt517.1 bt517.2.1 bt517.2.2).bind fun bt523 => ((meter_Length.f k bt517.1 bt517.2.1 bt517.2.2).bind fun bt527 => (if bt523.2 = 0 then (if bt527.2.2 = 0 then (if (bt523.1.length : Int) = 0 then (partitalaw05_MeterBeats.j0 k a1 t516 bt523.1 true bt517.1 bt517.2.1 bt517.2.2 bt527.1 bt527.2.1) else (if 0 < (bt523.1.length : Int) then (partitalaw05_MeterBeats.j0 k a1 t516 bt523.1 (!(((rd_T26 bt523.1 0).f0) == 0) || (!(((rd_T26 bt523.1 0).f1) == 1))) bt517.1 bt517.2.1 bt517.2.2 bt527.1 bt527.2.1) else (none))) else (partitalaw05_MeterBeats.j0 k a1 t516 bt523.1 true bt517.1 bt517.2.1 bt517.2.2 bt527.1 bt527.2.1)) else (partitalaw05_MeterBeats.j0 k a1 t516 bt523.1 true bt517.1 bt517.2.1 bt517.2.2 bt527.1 bt527.2.1)))))
theorem partitalaw05_MeterBeats.mono_l : ∀ k, (∀ y0 y1 y2 y3 y4 y5 y6 y7 y8, LeO (partitalaw05_MeterBeats.j0 k y0 y1 y2 y3 y4 y5 y6 y7 y8) (partitalaw05_MeterBeats.j0 (k + 1) y0 y1 y2 y3 y4 y5 y6 y7 y8)) ∧ (∀ y0 y1 y2 y3 y4 y5 y6 y7 y8 y9, LeO (partitalaw05_MeterBeats.l0 k y0 y1 y2 y3 y4 y5 y6 y7 y8 y9) (partitalaw05_MeterBeats.l0 (k + 1) y0 y1 y2 y3 y4 y5 y6 y7 y8 y9)) ∧ (∀ y0 y1 y2 y3 y4 y5 y6 y7 y8 y9 y10 y11, LeO (partitalaw05_MeterBeats.j2 k y0 y1 y2 y3 y4 y5 y6 y7 y8 y9 y10 y11) (partitalaw05_MeterBeats.j2 (k + 1) y0 y1 y2 y3 y4 y5 y6 y7 y8 y9 y10 y11)) ∧ (∀ y0 y1 y2 y3 y4 y5 y6 y7 y8 y9 y10 y11 y12, LeO (partitalaw05_MeterBeats.j3 k y0 y1 y2 y3 y4 y5 y6 y7 y8 y9 y10 y11 y12) (partitalaw05_MeterBeats.j3 (k + 1) y0 y1 y2 y3 y4 y5 y6 y7 y8 y9 y10 y11 y12)) ∧ (∀ y0 y1 y2 y3 y4 y5 y6 y7 y8 y9 y10 y11 y12, LeO (partitalaw05_MeterBeats.j4 k y0 y1 y2 y3 y4 y5 y6 y7 y8 y9 y10 y11 y12) (partitalaw05_MeterBeats.j4 (k + 1) y0 y1 y2 y3 y4 y5 y6 y7 y8 y9 y10 y11 y12))
 | 0 => ⟨fun _ _ _ _ _ _ _ _ _ r h => by simp [partitalaw05_MeterBeats.j0] at h, fun _ _ _ _ _ _ _ _ _ _ r h => by simp [partitalaw05_MeterBeats.l0] at h, fun _ _ _ _ _ _ _ _ _ _ _ _ r h => by simp [partitalaw05_MeterBeats.j2] at h, fun _ _ _ _ _ _ _ _ _ _ _ _ _ r h => by simp [partitalaw05_MeterBeats.j3] at h, fun _ _ _ _ _ _ _ _ _ _ _ _ _ r h => by simp [partitalaw05_MeterBeats.j4] at h⟩
 | k + 1 => by
  obtain ⟨ih0, ih1, ih2, ih3, ih4⟩ := partitalaw05_MeterBeats.mono_l k
  refine ⟨?_, ?_, ?_, ?_, ?_⟩
  · intro y0 y1 y2 y3 y4 y5 y6 y7 y8
    unfold partitalaw05_MeterBeats.j0
    repeat' first
    | (with_reducible exact ih0 _ _ _ _ _ _ _ _ _)
    | (with_reducible exact ih1 _ _ _ _ _ _ _ _ _ _)
    | (with_reducible exact ih2 _ _ _ _ _ _ _ _ _ _ _ _)
    | (with_reducible exact ih3 _ _ _ _ _ _ _ _ _ _ _ _ _)
    | (with_reducible exact ih4 _ _ _ _ _ _ _ _ _ _ _ _ _)
    | (with_reducible exact meter_Beats.mono _ _ _ _)
    | (with_reducible exact meter_Length.mono _ _ _ _)
    | (with_reducible exact partitalaw05_Meter.mono _ _ _ _ _)
    | (with_reducible exact partitalaw05_awake.mono _)
    | (with_reducible exact LeO.refl _)
    | (with_reducible exact LeO.none _)
    | (with_reducible refine LeO.ite ?_ ?_)
    | (with_reducible refine LeO.bind ?_ (fun _ => ?_))
    | exact ih0 _ _ _ _ _ _ _ _ _
    | exact ih1 _ _ _ _ _ _ _ _ _ _
    | exact ih2 _ _ _ _ _ _ _ _ _ _ _ _
    | exact ih3 _ _ _ _ _ _ _ _ _ _ _ _ _
    | exact ih4 _ _ _ _ _ _ _ _ _ _ _ _ _
    | exact meter_Beats.mono _ _ _ _
    | exact meter_Length.mono _ _ _ _
    | exact partitalaw05_Meter.mono _ _ _ _ _
    | exact partitalaw05_awake.mono _
    | exact LeO.none _
    | refine LeO.ite ?_ ?_
    | refine LeO.bind ?_ (fun _ => ?_)
  · intro y0 y1 y2 y3 y4 y5 y6 y7 y8 y9
    unfold partitalaw05_MeterBeats.l0
    repeat' first
    | (with_reducible exact ih0 _ _ _ _ _ _ _ _ _)
    | (with_reducible exact ih1 _ _ _ _ _ _ _ _ _ _)
    | (with_reducible exact ih2 _ _ _ _ _ _ _ _ _ _ _ _)
    | (with_reducible exact ih3 _ _ _ _ _ _ _ _ _ _ _ _ _)
    | (with_reducible exact ih4 _ _ _ _ _ _ _ _ _ _ _ _ _)
    | (with_reducible exact meter_Beats.mono _ _ _ _)
    | (with_reducible exact meter_Length.mono _ _ _ _)
    | (with_reducible exact partitalaw05_Meter.mono _ _ _ _ _)
    | (with_reducible exact partitalaw05_awake.mono _)
    | (with_reducible exact LeO.refl _)
    | (with_reducible exact LeO.none _)
    | (with_reducible refine LeO.ite ?_ ?_)
    | (with_reducible refine LeO.bind ?_ (fun _ => ?_))
    | exact ih0 _ _ _ _ _ _ _ _ _
    | exact ih1 _ _ _ _ _ _ _ _ _ _
    | exact ih2 _ _ _ _ _ _ _ _ _ _ _ _
    | exact ih3 _ _ _ _ _ _ _ _ _ _ _ _ _
    | exact ih4 _ _ _ _ _ _ _ _ _ _ _ _ _
    | exact meter_Beats.mono _ _ _ _
    | exact meter_Length.mono _ _ _ _
    | exact partitalaw05_Meter.mono _ _ _ _ _
    | exact partitalaw05_awake.mono _
    | exact LeO.none _
    | refine LeO.ite ?_ ?_
    | refine LeO.bind ?_ (fun _ => ?_)
  · intro y0 y1 y2 y3 y4 y5 y6 y7 y8 y9 y10 y11
    unfold partitalaw05_MeterBeats.j2
    repeat' first
    | (with_reducible exact ih0 _ _ _ _ _ _ _ _ _)
    | (with_reducible exact ih1 _ _ _ _ _ _ _ _ _ _)
    | (with_reducible exact ih2 _ _ _ _ _ _ _ _ _ _ _ _)
    | (with_reducible exact ih3 _ _ _ _ _ _ _ _ _ _ _ _ _)
    | (with_reducible exact ih4 _ _ _ _ _ _ _ _ _ _ _ _ _)
    | (with_reducible exact meter_Beats.mono _ _ _ _)
    | (with_reducible exact meter_Length.mono _ _ _ _)
    | (with_reducible exact partitalaw05_Meter.mono _ _ _ _ _)
    | (with_reducible exact partitalaw05_awake.mono _)
    | (with_reducible exact LeO.refl _)
    | (with_reducible exact LeO.none _)
    | (with_reducible refine LeO.ite ?_ ?_)
    | (with_reducible refine LeO.bind ?_ (fun _ => ?_))
    | exact ih0 _ _ _ _ _ _ _ _ _
    | exact ih1 _ _ _ _ _ _ _ _ _ _
    | exact ih2 _ _ _ _ _ _ _ _ _ _ _ _
    | exact ih3 _ _ _ _ _ _ _ _ _ _ _ _ _
    | exact ih4 _ _ _ _ _ _ _ _ _ _ _ _ _
    | exact meter_Beats.mono _ _ _ _
    | exact meter_Length.mono _ _ _ _
    | exact partitalaw05_Meter.mono _ _ _ _ _
    | exact partitalaw05_awake.mono _
    | exact LeO.none _
    | refine LeO.ite ?_ ?_
    | refine LeO.bind ?_ (fun _ => ?_)
  · intro y0 y1 y2 y3 y4 y5 y6 y7 y8 y9 y10 y11 y12
    unfold partitalaw05_MeterBeats.j3
    repeat' first
    | (with_reducible exact ih0 _ _ _ _ _ _ _ _ _)
    | (with_reducible exact ih1 _ _ _ _ _ _ _ _ _ _)
    | (with_reducible exact ih2 _ _ _ _ _ _ _ _ _ _ _ _)
    | (with_reducible exact ih3 _ _ _ _ _ _ _ _ _ _ _ _ _)
    | (with_reducible exact ih4 _ _ _ _ _ _ _ _ _ _ _ _ _)
    | (with_reducible exact meter_Beats.mono _ _ _ _)
    | (with_reducible exact meter_Length.mono _ _ _ _)
    | (with_reducible exact partitalaw05_Meter.mono _ _ _ _ _)
    | (with_reducible exact partitalaw05_awake.mono _)
    | (with_reducible exact LeO.refl _)
    | (with_reducible exact LeO.none _)
    | (with_reducible refine LeO.ite ?_ ?_)
    | (with_reducible refine LeO.bind ?_ (fun _ => ?_))
    | exact ih0 _ _ _ _ _ _ _ _ _
    | exact ih1 _ _ _ _ _ _ _ _ _ _
    | exact ih2 _ _ _ _ _ _ _ _ _ _ _ _
    | exact ih3 _ _ _ _ _ _ _ _ _ _ _ _ _
    | exact ih4 _ _ _ _ _ _ _ _ _ _ _ _ _
    | exact meter_Beats.mono _ _ _ _
    | exact meter_Length.mono _ _ _ _
    | exact partitalaw05_Meter.mono _ _ _ _ _
    | exact partitalaw05_awake.mono _
    | exact LeO.none _
    | refine LeO.ite ?_ ?_
    | refine LeO.bind ?_ (fun _ => ?_)
  · intro y0 y1 y2 y3 y4 y5 y6 y7 y8 y9 y10 y11 y12
    unfold partitalaw05_MeterBeats.j4
    repeat' first
    | (with_reducible exact ih0 _ _ _ _ _ _ _ _ _)
    | (with_reducible exact ih1 _ _ _ _ _ _ _ _ _ _)
    | (with_reducible exact ih2 _ _ _ _ _ _ _ _ _ _ _ _)
    | (with_reducible exact ih3 _ _ _ _ _ _ _ _ _ _ _ _ _)
    | (with_reducible exact ih4 _ _ _ _ _ _ _ _ _ _ _ _ _)
    | (with_reducible exact meter_Beats.mono _ _ _ _)
    | (with_reducible exact meter_Length.mono _ _ _ _)
    | (with_reducible exact partitalaw05_Meter.mono _ _ _ _ _)
    | (with_reducible exact partitalaw05_awake.mono _)
    | (with_reducible exact LeO.refl _)
    | (with_reducible exact LeO.none _)
    | (with_reducible refine LeO.ite ?_ ?_)
    | (with_reducible refine LeO.bind ?_ (fun _ => ?_))
    | exact ih0 _ _ _ _ _ _ _ _ _
    | exact ih1 _ _ _ _ _ _ _ _ _ _
    | exact ih2 _ _ _ _ _ _ _ _ _ _ _ _
    | exact ih3 _ _ _ _ _ _ _ _ _ _ _ _ _
    | exact ih4 _ _ _ _ _ _ _ _ _ _ _ _ _
    | exact meter_Beats.mono _ _ _ _
    | exact meter_Length.mono _ _ _ _
    | exact partitalaw05_Meter.mono _ _ _ _ _
    | exact partitalaw05_awake.mono _
    | exact LeO.none _
    | refine LeO.ite ?_ ?_
    | refine LeO.bind ?_ (fun _ => ?_)
theorem partitalaw05_MeterBeats.mono : ∀ a0 a1 a2 a3 k, LeO (partitalaw05_MeterBeats.f k a0 a1 a2 a3) (partitalaw05_MeterBeats.f (k + 1) a0 a1 a2 a3) := by
 intro a0 a1 a2 a3 k
 obtain ⟨ih0, ih1, ih2, ih3, ih4⟩ := partitalaw05_MeterBeats.mono_l k
 unfold partitalaw05_MeterBeats.f
 repeat' first
  | (with_reducible exact ih0 _ _ _ _ _ _ _ _ _)
  | (with_reducible exact ih1 _ _ _ _ _ _ _ _ _ _)
  | (with_reducible exact ih2 _ _ _ _ _ _ _ _ _ _ _ _)
  | (with_reducible exact ih3 _ _ _ _ _ _ _ _ _ _ _ _ _)
  | (with_reducible exact ih4 _ _ _ _ _ _ _ _ _ _ _ _ _)
  | (with_reducible exact meter_Beats.mono _ _ _ _)
  | (with_reducible exact meter_Length.mono _ _ _ _)
  | (with_reducible exact partitalaw05_Meter.mono _ _ _ _ _)
  | (with_reducible exact partitalaw05_awake.mono _)
  | (with_reducible exact LeO.refl _)
  | (with_reducible exact LeO.none _)
  | (with_reducible refine LeO.ite ?_ ?_)
  | (with_reducible refine LeO.bind ?_ (fun _ => ?_))
  | exact ih0 _ _ _ _ _ _ _ _ _
  | exact ih1 _ _ _ _ _ _ _ _ _ _
  | exact ih2 _ _ _ _ _ _ _ _ _ _ _ _
  | exact ih3 _ _ _ _ _ _ _ _ _ _ _ _ _
  | exact ih4 _ _ _ _ _ _ _ _ _ _ _ _ _
  | exact meter_Beats.mono _ _ _ _
  | exact meter_Length.mono _ _ _ _
  | exact partitalaw05_Meter.mono _ _ _ _ _
  | exact partitalaw05_awake.mono _
  | exact LeO.none _
  | refine LeO.ite ?_ ?_
  | refine LeO.bind ?_ (fun _ => ?_)
def partitalaw05_MeterBeats.T14 : Bool × List (List Nat × List Nat) := (true, [([], []), ([], []), ([], []), ([1, 2], [1, 2]), ([3], [3]), ([0, 4], [0, 4]), ([5], [5]), ([6], [6]), ([6], [6]), ([], []), ([9, 7, 5, 0, 1, 2, 3, 4, 5, 6, 7, 9], [7, 9]), ([8, 10, 0, 1, 2, 3, 4, 5, 6, 7, 8, 9, 10], [8])])
def partitalaw05_MeterBeats.B14 : List Nat := [0, 0, 0, 6, 14, 31, 63, 127, 127, 0, 767, 2047]
theorem partitalaw05_MeterBeats.tab14 : rtab .any (opsOf Try.f9 14) = partitalaw05_MeterBeats.T14 := by kernel_rfl
theorem partitalaw05_MeterBeats.bits14 : waitsOk partitalaw05_MeterBeats.T14.2 partitalaw05_MeterBeats.B14 = true := by kernel_rfl
def partitalaw05_MeterBeats.T18 : Bool × List (List Nat × List Nat) := (true, [([], []), ([0], [0]), ([1], [1]), ([1], [1]), ([3, 1], [1, 3]), ([4, 1], [1, 4]), ([2, 5, 1], [1, 2, 5]), ([6, 1, 1], [1, 6]), ([7], [7]), ([8, 7], [7, 8]), ([7], [7]), ([10, 7], [7, 10]), ([7], [7]), ([11, 12, 7], [7, 11, 12]), ([13, 7], [7, 13]), ([9, 14, 7], [7, 9, 14]), ([7, 15, 1], [1, 7, 15]), ([1, 16], [1, 16])])
def partitalaw05_MeterBeats.B18 : List Nat := [0, 1, 3, 3, 11, 27, 63, 127, 255, 511, 255, 1279, 255, 7423, 15615, 32767, 65535, 131071]
theorem partitalaw05_MeterBeats.tab18 : rtab .any (opsOf Try.f9 18) = partitalaw05_MeterBeats.T18 := by kernel_rfl
theorem partitalaw05_MeterBeats.bits18 : waitsOk partitalaw05_MeterBeats.T18.2 partitalaw05_MeterBeats.B18 = true := by kernel_rfl
set_option maxHeartbeats 8000000 in
set_option maxRecDepth 100000 in
theorem partitalaw05_MeterBeats.calls (k : Nat) (a0_0 : Int) (a0_1 : Int) (A0_2 : Option Addr) (c0_2 : Nat) (l0_2 : List Int) (a1 : Bool) (r : Bool) (w : World) (hr0_2 : Kd.C (Kd.int .i64) w A0_2 l0_2.length l0_2) (hc0_2 : l0_2.length ≤ c0_2) (h : partitalaw05_MeterBeats.f k a0_0 a0_1 l0_2 a1 = some r) :
 Calls Try.prog 9 #[.agg #[.int .i64 a0_0, .int .i64 a0_1, .slice A0_2 l0_2.length c0_2], .bool a1] w fun e w' => e = .returned (.bool r) ∧ Below w.heap.size w w' := by
 have hu24 := Try.underlying24
 have hu26 := Try.underlying26
 have HR0_2 := Aside0.mk hr0_2
 have HC0_2 := Aside0.mk hc0_2
 clear hr0_2 hc0_2
 have HB := Aside0.mk (Below.refl w.heap.size w)
 have H : ((partitalaw05_awake.f k).bind fun t516 => ((partitalaw05_Meter.f k a0_0 a0_1 l0_2 a1).bind fun bt517 => ((meter_Beats.f k bt517.1 bt517.2.1 bt517.2.2).bind fun bt523 => ((meter_Length.f k bt517.1 bt517.2.1 bt517.2.2).bind fun bt527 => (if bt523.2 = 0 then (if bt527.2.2 = 0 then (if (bt523.1.length : Int) = 0 then (partitalaw05_MeterBeats.j0 k a1 t516 bt523.1 true bt517.1 bt517.2.1 bt517.2.2 bt527.1 bt527.2.1) else (if 0 < (bt523.1.length : Int) then (partitalaw05_MeterBeats.j0 k a1 t516 bt523.1 (!(((rd_T26 bt523.1 0).f0) == 0) || (!(((rd_T26 bt523.1 0).f1) == 1))) bt517.1 bt517.2.1 bt517.2.2 bt527.1 bt527.2.1) else (none))) else (partitalaw05_MeterBeats.j0 k a1 t516 bt523.1 true bt517.1 bt517.2.1 bt517.2.2 bt527.1 bt527.2.1)) else (partitalaw05_MeterBeats.j0 k a1 t516 bt523.1 true bt517.1 bt517.2.1 bt517.2.2 bt527.1 bt527.2.1)))))) = some r := h
 clear h
 replace H := Option.bind_eq_some_iff.mp H
 obtain ⟨t516, A30, H⟩ := H
 replace H : ((partitalaw05_Meter.f k a0_0 a0_1 l0_2 a1).bind fun bt517 => ((meter_Beats.f k bt517.1 bt517.2.1 bt517.2.2).bind fun bt523 => ((meter_Length.f k bt517.1 bt517.2.1 bt517.2.2).bind fun bt527 => (if bt523.2 = 0 then (if bt527.2.2 = 0 then (if (bt523.1.length : Int) = 0 then (partitalaw05_MeterBeats.j0 k a1 t516 bt523.1 true bt517.1 bt517.2.1 bt517.2.2 bt527.1 bt527.2.1) else (if 0 < (bt523.1.length : Int) then (partitalaw05_MeterBeats.j0 k a1 t516 bt523.1 (!(((rd_T26 bt523.1 0).f0) == 0) || (!(((rd_T26 bt523.1 0).f1) == 1))) bt517.1 bt517.2.1 bt517.2.2 bt527.1 bt527.2.1) else (none))) else (partitalaw05_MeterBeats.j0 k a1 t516 bt523.1 true bt517.1 bt517.2.1 bt517.2.2 bt527.1 bt527.2.1)) else (partitalaw05_MeterBeats.j0 k a1 t516 bt523.1 true bt517.1 bt517.2.1 bt517.2.2 bt527.1 bt527.2.1))))) = some r := H
 have A3 := Aside0.mk A30
 clear A30
 replace H := Option.bind_eq_some_iff.mp H
 obtain ⟨⟨t517, t518, t519⟩, A40, H⟩ := H
 replace H : ((meter_Beats.f k t517 t518 t519).bind fun bt523 => ((meter_Length.f k t517 t518 t519).bind fun bt527 => (if bt523.2 = 0 then (if bt527.2.2 = 0 then (if (bt523.1.length : Int) = 0 then (partitalaw05_MeterBeats.j0 k a1 t516 bt523.1 true t517 t518 t519 bt527.1 bt527.2.1) else (if 0 < (bt523.1.length : Int) then (partitalaw05_MeterBeats.j0 k a1 t516 bt523.1 (!(((rd_T26 bt523.1 0).f0) == 0) || (!(((rd_T26 bt523.1 0).f1) == 1))) t517 t518 t519 bt527.1 bt527.2.1) else (none))) else (partitalaw05_MeterBeats.j0 k a1 t516 bt523.1 true t517 t518 t519 bt527.1 bt527.2.1)) else (partitalaw05_MeterBeats.j0 k a1 t516 bt523.1 true t517 t518 t519 bt527.1 bt527.2.1)))) = some r := H
 have A4 := Aside0.mk A40
 clear A40
 replace H := Option.bind_eq_some_iff.mp H
 obtain ⟨⟨t523, t526⟩, A50, H⟩ := H
 replace H : ((meter_Length.f k t517 t518 t519).bind fun bt527 => (if t526 = 0 then (if bt527.2.2 = 0 then (if (t523.length : Int) = 0 then (partitalaw05_MeterBeats.j0 k a1 t516 t523 true t517 t518 t519 bt527.1 bt527.2.1) else (if 0 < (t523.length : Int) then (partitalaw05_MeterBeats.j0 k a1 t516 t523 (!(((rd_T26 t523 0).f0) == 0) || (!(((rd_T26 t523 0).f1) == 1))) t517 t518 t519 bt527.1 bt527.2.1) else (none))) else (partitalaw05_MeterBeats.j0 k a1 t516 t523 true t517 t518 t519 bt527.1 bt527.2.1)) else (partitalaw05_MeterBeats.j0 k a1 t516 t523 true t517 t518 t519 bt527.1 bt527.2.1))) = some r := H
 have A5 := Aside0.mk A50
 clear A50
 replace H := Option.bind_eq_some_iff.mp H
 obtain ⟨⟨t527, t528, t529⟩, A60, H⟩ := H
 replace H : (if t526 = 0 then (if t529 = 0 then (if (t523.length : Int) = 0 then (partitalaw05_MeterBeats.j0 k a1 t516 t523 true t517 t518 t519 t527 t528) else (if 0 < (t523.length : Int) then (partitalaw05_MeterBeats.j0 k a1 t516 t523 (!(((rd_T26 t523 0).f0) == 0) || (!(((rd_T26 t523 0).f1) == 1))) t517 t518 t519 t527 t528) else (none))) else (partitalaw05_MeterBeats.j0 k a1 t516 t523 true t517 t518 t519 t527 t528)) else (partitalaw05_MeterBeats.j0 k a1 t516 t523 true t517 t518 t519 t527 t528)) = some r := H
 have A6 := Aside0.mk A60
 clear A60
 have HC7 := Aside0.mk H
 clear H
 go_enter Try.func9, Try.ntmps9
 go_upto_region 5 with (first | ((with_reducible refine gate_dst (N := 2) rfl ?_); (try (refine gate_guard (by rfl) ?_; dsimp only)); refine box_event ?hg (N := 2) ?hd (cs := #[.int .i64 a0_0, .int .i64 a0_1, .slice A0_2 l0_2.length c0_2]) (t := 24) ?hr ?_; (case hd => rfl); (case hg => rfl); (case hr => first | (go_simp; done) | (go_simp; rfl)); intro gb515 hg w8 hbox hb; have n0_ := Aside0.mk (below_step (by repeat (first | (with_reducible first | exact HB.out | apply below_alloc | apply pw_below_drewN | apply below_drew1) | exact HB.out)) hb); have n1_ := Aside0.mk (hbox); have n2_ := Aside0.mk ((by rw [hg]; exact (below_size (by repeat (first | (with_reducible first | exact HB.out | apply below_alloc | apply pw_below_drewN | apply below_drew1) | exact HB.out))) : w.heap.size ≤ gb515)); have n3_ := Aside0.mk ((by rw [hg]; exact (below_size (by repeat (first | (with_reducible first | exact HB.out | apply below_alloc | apply pw_below_drewN | apply below_drew1) | exact HB.out))) : w.heap.size ≤ gb515)); clear HB; have HB := n0_; have BK515 := n1_; have GW515 := n2_; have GE515 := n3_; clear n0_ n1_ n2_ n3_; clear hb hbox hg) | ((with_reducible refine gate_callee (f := 10) rfl ?_); refine goesL_ (some 18) rfl rfl Try.func10 (by kernel_rfl) rfl #[] rfl (by (try simp only [List.map_toArray, List.map_cons, List.map_nil]); first | done | rfl | (simp only [List.length_drop, List.length_take]; rfl)) ?_; (with_reducible refine (partitalaw05_awake.calls k  t516 _ A3.out).mono ?_); rintro e w9 ⟨rfl, hb⟩; refine ⟨_, rfl, ?_⟩; have n0_ := Aside0.mk (blk_below (qB BK515.out) hb); have n1_ := Aside0.mk (below_step (by repeat (first | (with_reducible first | exact HB.out | apply below_alloc | apply pw_below_drewN | apply below_drew1 | refine below_set ?_ GE515.out) | exact HB.out)) hb); clear BK515; clear HB; have BK515 := n0_; have HB := n1_; clear n0_ n1_; (try clear hb); (try clear hb2); (try clear hk); (try clear hi); have hcz10_0 : w9.cell? ⟨gb515, 0, none⟩ = some (.int .i64 a0_0) := (blk_cell BK515.out 0).trans rfl; have hcz10_1 : w9.cell? ⟨gb515, 1, none⟩ = some (.int .i64 a0_1) := (blk_cell BK515.out 1).trans rfl; have hcz10_2 : w9.cell? ⟨gb515, 2, none⟩ = some (.slice A0_2 l0_2.length c0_2) := (blk_cell BK515.out 2).trans rfl; have hfz10_0 := blk_frozen BK515.out 0; have hfz10_1 := blk_frozen BK515.out 1; have hfz10_2 := blk_frozen BK515.out 2) | ((with_reducible refine gate_callee (f := 11) rfl ?_); refine goesL_ (some 21) rfl rfl Try.func11 (by kernel_rfl) rfl #[.agg #[.int .i64 a0_0, .int .i64 a0_1, .slice A0_2 l0_2.length c0_2], .bool a1] rfl (by (try simp only [List.map_toArray, List.map_cons, List.map_nil]); first | done | rfl | (simp only [List.length_drop, List.length_take]; rfl)) ?_; (with_reducible refine (partitalaw05_Meter.calls k a0_0 a0_1 _ _ l0_2 a1 t517 t518 t519 _ ?side1 ?side2 A4.out).mono ?_); (case side1 => repeat (first | exact (Kd.C_below HR0_2.out HB.out) | (with_reducible refine Kd.C_alloc ?_ _) | (with_reducible refine Kd.C_drewN ?_ _) | (with_reducible refine Kd.C_drew ?_))); (case side2 => exact HC0_2.out); rintro e w11 ⟨v520, rfl, ho0, hb⟩; refine ⟨_, rfl, ?_⟩; have n0_ := Aside0.mk (Kd.R_lower ho0 (below_size (by repeat (first | (with_reducible first | exact HB.out | apply below_alloc | apply pw_below_drewN | apply below_drew1 | refine below_set ?_ GE515.out) | exact HB.out)))); have n1_ := Aside0.mk (blk_below (qB BK515.out) hb); have n2_ := Aside0.mk (below_step (by repeat (first | (with_reducible first | exact HB.out | apply below_alloc | apply pw_below_drewN | apply below_drew1 | refine below_set ?_ GE515.out) | exact HB.out)) hb); clear BK515; clear HB; have HO521 := n0_; have BK515 := n1_; have HB := n2_; clear n0_ n1_ n2_; (try clear hb); (try clear hb2); (try clear hk); (try clear hi); (try clear ho0)) | ((with_reducible refine gate_dst (N := 6) rfl ?_); (try (refine gate_guard (by rfl) ?_; dsimp only)); refine box_event ?hg (N := 6) ?hd (cs := #[.int .i64 0, .int .i64 0, .slice none 0 0]) (t := 24) ?hr ?_; (case hd => rfl); (case hg => rfl); (case hr => first | (go_simp; done) | (go_simp; rfl)); intro gb522 hg w12 hbox hb; have n0_ := Aside0.mk (Kd.R_below (qR HO521.out) hb); have n1_ := Aside0.mk (blk_below (qB BK515.out) hb); have n2_ := Aside0.mk (below_step (by repeat (first | (with_reducible first | exact HB.out | apply below_alloc | apply pw_below_drewN | apply below_drew1 | refine below_set ?_ GE515.out) | exact HB.out)) hb); have n3_ := Aside0.mk (hbox); have n4_ := Aside0.mk ((by rw [hg]; exact (below_size (by repeat (first | (with_reducible first | exact HB.out | apply below_alloc | apply pw_below_drewN | apply below_drew1 | refine below_set ?_ GE515.out) | exact HB.out))) : w.heap.size ≤ gb522)); have n5_ := Aside0.mk ((by rw [hg]; exact (below_size (by repeat (first | (with_reducible first | exact HB.out | apply below_alloc | apply pw_below_drewN | apply below_drew1 | refine below_set ?_ GE515.out) | exact HB.out))) : w.heap.size ≤ gb522)); have n6_ := Aside0.mk ((by rw [hg]; exact Nat.ne_of_lt (blk_lt (qB BK515.out)) : gb515 ≠ gb522)); have n7_ := Aside0.mk ((by rw [hg]; exact Nat.ne_of_gt (blk_lt (qB BK515.out)) : gb522 ≠ gb515)); clear HO521; clear BK515; clear HB; have HO521 := n0_; have BK515 := n1_; have HB := n2_; have BK522 := n3_; have GW522 := n4_; have GE522 := n5_; have NB515_522 := n6_; have NB522_515 := n7_; clear n0_ n1_ n2_ n3_ n4_ n5_ n6_ n7_; clear hb hbox hg; have hnb13 := NB522_515.out; have hnc13 := NB515_522.out; have hcz14_0 : w12.cell? ⟨gb522, 0, none⟩ = some (.int .i64 0) := (blk_cell BK522.out 0).trans rfl; have hcz14_1 : w12.cell? ⟨gb522, 1, none⟩ = some (.int .i64 0) := (blk_cell BK522.out 1).trans rfl; have hcz14_2 : w12.cell? ⟨gb522, 2, none⟩ = some (.slice none 0 0) := (blk_cell BK522.out 2).trans rfl; have hfz14_0 := blk_frozen BK522.out 0; have hfz14_1 := blk_frozen BK522.out 1; have hfz14_2 := blk_frozen BK522.out 2; obtain ⟨Ao15, co15, eo15⟩ := Kd.R_slice HO521.out; subst eo15) | ((with_reducible refine gate_callee (f := 14) rfl ?_); refine goesL_ (some 24) rfl rfl Try.func14 (by kernel_rfl) rfl #[.agg #[.int .i64 t517, .int .i64 t518, .slice Ao15 t519.length co15]] rfl (by (try simp only [List.map_toArray, List.map_cons, List.map_nil]); first | done | rfl | (simp only [List.length_drop, List.length_take]; rfl)) ?_; (with_reducible refine (meter_Beats.calls k t517 t518 _ _ t519 t523 t526 _ ?side1 ?side2 A5.out).mono ?_); (case side1 => refine (Kd.R_reads' (e := 3) (base := w.heap.size) (ok := fun k_ => True) (n := t519.length) (c := co15) ?_).2.2; exact (qR ((Kd.R_mono (Kd.R_far (p := ⟨gb522, 2, none⟩) (Kd.R_far (p := ⟨gb522, 1, none⟩) (Kd.R_far (p := ⟨gb522, 0, none⟩) (Kd.R_types HO521.out BK522.out (by decide)) (fun _ hk => hk.2) (.int .i64 t517)) (fun _ hk => hk.2) (.int .i64 t518)) (fun _ hk => hk.2) (.slice Ao15 t519.length co15)) (fun _ h_ => h_.1))))); (case side2 => exact (Kd.R_reads' HO521.out).2.1); rintro e w16 ⟨v524, rfl, ho0, hb⟩; refine ⟨_, rfl, ?_⟩; have n0_ := Aside0.mk (Kd.R_below (qR ((Kd.R_mono (Kd.R_far (p := ⟨gb522, 2, none⟩) (Kd.R_far (p := ⟨gb522, 1, none⟩) (Kd.R_far (p := ⟨gb522, 0, none⟩) (Kd.R_types HO521.out BK522.out (by decide)) (fun _ hk => hk.2) (.int .i64 t517)) (fun _ hk => hk.2) (.int .i64 t518)) (fun _ hk => hk.2) (.slice Ao15 t519.length co15)) (fun _ h_ => h_.1)))) hb); have n1_ := Aside0.mk (Kd.R_lower ho0 (below_size (by repeat (first | (with_reducible first | exact HB.out | apply below_alloc | apply pw_below_drewN | apply below_drew1 | refine below_set ?_ (Aside0.out (by assumption))) | exact HB.out)))); have n2_ := Aside0.mk (blk_below (g := gb515) (o := .cells #[.int .i64 a0_0, .int .i64 a0_1, .slice A0_2 l0_2.length c0_2] 24 (0, 0)) (by (with_reducible repeat (first | refine blk_drewN ?_ _ | refine blk_drew ?_ | refine blk_alloc ?_ _)); refine blk_far ?_ NB515_522.out _; (with_reducible repeat (first | refine blk_drewN ?_ _ | refine blk_drew ?_ | refine blk_alloc ?_ _)); refine blk_far ?_ NB515_522.out _; (with_reducible repeat (first | refine blk_drewN ?_ _ | refine blk_drew ?_ | refine blk_alloc ?_ _)); refine blk_far ?_ NB515_522.out _; (with_reducible repeat (first | refine blk_drewN ?_ _ | refine blk_drew ?_ | refine blk_alloc ?_ _)); exact BK515.out) hb); have n3_ := Aside0.mk (blk_below (g := gb522) (o := .cells #[.int .i64 t517, .int .i64 t518, .slice Ao15 t519.length co15] 24 (0, 0)) (by (with_reducible repeat (first | refine blk_drewN ?_ _ | refine blk_drew ?_ | refine blk_alloc ?_ _)); refine blk_put (cs := #[.int .i64 t517, .int .i64 t518, .slice none 0 0]) ?_ 2 _ rfl; (with_reducible repeat (first | refine blk_drewN ?_ _ | refine blk_drew ?_ | refine blk_alloc ?_ _)); refine blk_put (cs := #[.int .i64 t517, .int .i64 0, .slice none 0 0]) ?_ 1 _ rfl; (with_reducible repeat (first | refine blk_drewN ?_ _ | refine blk_drew ?_ | refine blk_alloc ?_ _)); refine blk_put (cs := #[.int .i64 0, .int .i64 0, .slice none 0 0]) ?_ 0 _ rfl; (with_reducible repeat (first | refine blk_drewN ?_ _ | refine blk_drew ?_ | refine blk_alloc ?_ _)); exact BK522.out) hb); have n4_ := Aside0.mk (below_step (by repeat (first | (with_reducible first | exact HB.out | apply below_alloc | apply pw_below_drewN | apply below_drew1 | refine below_set ?_ (Aside0.out (by assumption))) | exact HB.out)) hb); clear HO521; clear BK515; clear BK522; clear HB; have HO521 := n0_; have HO525 := n1_; have BK515 := n2_; have BK522 := n3_; have HB := n4_; clear n0_ n1_ n2_ n3_ n4_; (try clear hb); (try clear hb2); (try clear hk); (try clear hi); (try clear ho0); have hcz17_0 : w16.cell? ⟨gb522, 0, none⟩ = some (.int .i64 t517) := (blk_cell BK522.out 0).trans rfl; have hcz17_1 : w16.cell? ⟨gb522, 1, none⟩ = some (.int .i64 t518) := (blk_cell BK522.out 1).trans rfl; have hcz17_2 : w16.cell? ⟨gb522, 2, none⟩ = some (.slice Ao15 t519.length co15) := (blk_cell BK522.out 2).trans rfl; have hfz17_0 := blk_frozen BK522.out 0; have hfz17_1 := blk_frozen BK522.out 1; have hfz17_2 := blk_frozen BK522.out 2) | ((with_reducible refine gate_callee (f := 12) rfl ?_); refine goesL_ (some 29) rfl rfl Try.func12 (by kernel_rfl) rfl #[.agg #[.int .i64 t517, .int .i64 t518, .slice Ao15 t519.length co15]] rfl (by (try simp only [List.map_toArray, List.map_cons, List.map_nil]); first | done | rfl | (simp only [List.length_drop, List.length_take]; rfl)) ?_; (with_reducible refine (meter_Length.calls k t517 t518 _ _ t519 t527 t528 t529 _ ?side1 ?side2 A6.out).mono ?_); (case side1 => repeat (first | exact (Kd.R_reads' HO521.out).2.2 | (with_reducible refine Kd.C_alloc ?_ _) | (with_reducible refine Kd.C_drewN ?_ _) | (with_reducible refine Kd.C_drew ?_))); (case side2 => exact (Kd.R_reads' HO521.out).2.1); rintro e w18 ⟨rfl, hb⟩; refine ⟨_, rfl, ?_⟩; have n0_ := Aside0.mk (Kd.R_below (qR HO521.out) hb); have n1_ := Aside0.mk (Kd.R_below (qR HO525.out) hb); have n2_ := Aside0.mk (blk_below (qB BK515.out) hb); have n3_ := Aside0.mk (blk_below (qB BK522.out) hb); have n4_ := Aside0.mk (below_step (by repeat (first | (with_reducible first | exact HB.out | apply below_alloc | apply pw_below_drewN | apply below_drew1 | refine below_set ?_ (Aside0.out (by assumption))) | exact HB.out)) hb); clear HO521; clear HO525; clear BK515; clear BK522; clear HB; have HO521 := n0_; have HO525 := n1_; have BK515 := n2_; have BK522 := n3_; have HB := n4_; clear n0_ n1_ n2_ n3_ n4_; (try clear hb); (try clear hb2); (try clear hk); (try clear hi)) | ((with_reducible refine gate_dst (N := 9) rfl ?_); (try (refine gate_guard (by rfl) ?_; dsimp only)); refine box_event ?hg (N := 9) ?hd (cs := #[.int .i64 0, .int .i64 0]) (t := 26) ?hr ?_; (case hd => rfl); (case hg => rfl); (case hr => first | (go_simp; done) | (go_simp; rfl)); intro gb530 hg w19 hbox hb; have n0_ := Aside0.mk (Kd.R_below (qR HO521.out) hb); have n1_ := Aside0.mk (Kd.R_below (Kd.R_elderB (qR HO525.out) gb530 (Nat.le_of_eq hg.symm)) hb); have n2_ := Aside0.mk (blk_below (qB BK515.out) hb); have n3_ := Aside0.mk (blk_below (qB BK522.out) hb); have n4_ := Aside0.mk (below_step (by repeat (first | (with_reducible first | exact HB.out | apply below_alloc | apply pw_below_drewN | apply below_drew1 | refine below_set ?_ (Aside0.out (by assumption))) | exact HB.out)) hb); have n5_ := Aside0.mk (hbox); have n6_ := Aside0.mk ((by rw [hg]; exact (below_size (by repeat (first | (with_reducible first | exact HB.out | apply below_alloc | apply pw_below_drewN | apply below_drew1 | refine below_set ?_ (Aside0.out (by assumption))) | exact HB.out))) : w.heap.size ≤ gb530)); have n7_ := Aside0.mk ((by rw [hg]; exact (below_size (by repeat (first | (with_reducible first | exact HB.out | apply below_alloc | apply pw_below_drewN | apply below_drew1 | refine below_set ?_ (Aside0.out (by assumption))) | exact HB.out))) : w.heap.size ≤ gb530)); have n8_ := Aside0.mk ((by rw [hg]; exact Nat.ne_of_lt (blk_lt (qB BK515.out)) : gb515 ≠ gb530)); have n9_ := Aside0.mk ((by rw [hg]; exact Nat.ne_of_gt (blk_lt (qB BK515.out)) : gb530 ≠ gb515)); have n10_ := Aside0.mk ((by rw [hg]; exact Nat.ne_of_lt (blk_lt (qB BK522.out)) : gb522 ≠ gb530)); have n11_ := Aside0.mk ((by rw [hg]; exact Nat.ne_of_gt (blk_lt (qB BK522.out)) : gb530 ≠ gb522)); clear HO521; clear HO525; clear BK515; clear BK522; clear HB; have HO521 := n0_; have HO525 := n1_; have BK515 := n2_; have BK522 := n3_; have HB := n4_; have BK530 := n5_; have GW530 := n6_; have GE530 := n7_; have NB515_530 := n8_; have NB530_515 := n9_; have NB522_530 := n10_; have NB530_522 := n11_; clear n0_ n1_ n2_ n3_ n4_ n5_ n6_ n7_ n8_ n9_ n10_ n11_; clear hb hbox hg; have hnb20 := NB530_515.out; have hnc20 := NB515_530.out; have hnb21 := NB530_522.out; have hnc21 := NB522_530.out; have hcz22_0 : w19.cell? ⟨gb530, 0, none⟩ = some (.int .i64 0) := (blk_cell BK530.out 0).trans rfl; have hcz22_1 : w19.cell? ⟨gb530, 1, none⟩ = some (.int .i64 0) := (blk_cell BK530.out 1).trans rfl; have hfz22_0 := blk_frozen BK530.out 0; have hfz22_1 := blk_frozen BK530.out 1))
 (try simp only [Act.put, qa_, qz_, qs_])
 go_cut [49] (fun v49 wc => ∃ (kq : Nat) (x49_6 : Bool), v49 = .bool x49_6 ∧ Aside0 (partitalaw05_MeterBeats.j0 kq a1 t516 t523 x49_6 t517 t518 t519 t527 t528 = some r) ∧ Aside0 (kq ≤ k) ∧ Aside0 (Kd.R k26 26 wc w.heap.size (fun k_ => k_ ≠ gb530) v524 t523) ∧ Aside0 (Kd.R (Kd.int .i64) 3 wc w.heap.size (fun _ => True) (.slice Ao15 t519.length co15) t519) ∧ Aside0 (wc.heap[gb515]? = some (.cells #[.int .i64 a0_0, .int .i64 a0_1, (.slice A0_2 l0_2.length c0_2)] 24 (0, 0))) ∧ Aside0 (wc.heap[gb522]? = some (.cells #[.int .i64 t517, .int .i64 t518, (.slice Ao15 t519.length co15)] 24 (0, 0))) ∧ Aside0 (wc.heap[gb530]? = some (.cells #[.int .i64 t527, .int .i64 t528] 26 (0, 0))) ∧ Aside0 (Below w.heap.size w wc))
 case first =>
  have H := HC7.out
  clear HC7
  by_cases c23 : t526 = 0
  · rw [if_pos c23] at H
    have c23b0 : (t526 == 0) = true := beq_iff_eq.mpr c23
    have c23b1 : (t526 != 0) = false := bne_eq_false_iff_eq.mpr c23
    clear c23
    (first | rw [c23b0] | (simp only [i64_w, i32_w]; rw [c23b0]) | skip)
    by_cases c24 : t529 = 0
    · rw [if_pos c24] at H
      have c24b0 : (t529 == 0) = true := beq_iff_eq.mpr c24
      have c24b1 : (t529 != 0) = false := bne_eq_false_iff_eq.mpr c24
      clear c24
      by_cases c25 : (t523.length : Int) = 0
      · rw [if_pos c25] at H
        have c25b0 : ((t523.length : Int) == 0) = true := beq_iff_eq.mpr c25
        have c25b1 : ((t523.length : Int) != 0) = false := bne_eq_false_iff_eq.mpr c25
        clear c25
        have H' := Aside0.mk H
        clear H
        obtain ⟨Ao26, co26, eo26⟩ := Kd.R_slice HO525.out
        subst eo26
        go_wp2
        go_meet
        case rel => exact ⟨_, (true), (by first | rfl | (simp; done) | (simp [*]; done)), H', ⟨by first | omega | exact Nat.le_refl _⟩, ⟨by (with_reducible repeat (first | apply Kd.R_alloc | apply Kd.R_drewN | apply Kd.R_drew)); exact Kd.R_mono (Kd.R_far (p := ⟨gb530, 1, none⟩) (Kd.R_far (p := ⟨gb530, 0, none⟩) (Kd.R_mono HO525.out (fun k_ hk => (⟨hk, hk.2⟩ : _ ∧ k_ ≠ gb530))) (fun _ hk => hk.2) (.int .i64 t527)) (fun _ hk => hk.2) (.int .i64 t528)) (fun _ hk => hk.1.2)⟩, ⟨by (with_reducible repeat (first | apply Kd.R_alloc | apply Kd.R_drewN | apply Kd.R_drew)); exact Kd.R_mono (Kd.R_far (p := ⟨gb530, 1, none⟩) (Kd.R_far (p := ⟨gb530, 0, none⟩) (Kd.R_types HO521.out BK530.out (by decide)) (fun _ hk => hk.2) (.int .i64 t527)) (fun _ hk => hk.2) (.int .i64 t528)) (fun _ hk => trivial)⟩, ⟨by (with_reducible repeat (first | refine blk_drewN ?_ _ | refine blk_drew ?_ | refine blk_alloc ?_ _)); refine blk_far ?_ NB515_530.out _; (with_reducible repeat (first | refine blk_drewN ?_ _ | refine blk_drew ?_ | refine blk_alloc ?_ _)); refine blk_far ?_ NB515_530.out _; (with_reducible repeat (first | refine blk_drewN ?_ _ | refine blk_drew ?_ | refine blk_alloc ?_ _)); exact BK515.out⟩, ⟨by (with_reducible repeat (first | refine blk_drewN ?_ _ | refine blk_drew ?_ | refine blk_alloc ?_ _)); refine blk_far ?_ NB522_530.out _; (with_reducible repeat (first | refine blk_drewN ?_ _ | refine blk_drew ?_ | refine blk_alloc ?_ _)); refine blk_far ?_ NB522_530.out _; (with_reducible repeat (first | refine blk_drewN ?_ _ | refine blk_drew ?_ | refine blk_alloc ?_ _)); exact BK522.out⟩, ⟨by (with_reducible repeat (first | refine blk_drewN ?_ _ | refine blk_drew ?_ | refine blk_alloc ?_ _)); refine blk_put (cs := #[.int .i64 t527, .int .i64 0]) ?_ 1 _ rfl; (with_reducible repeat (first | refine blk_drewN ?_ _ | refine blk_drew ?_ | refine blk_alloc ?_ _)); refine blk_put (cs := #[.int .i64 0, .int .i64 0]) ?_ 0 _ rfl; (with_reducible repeat (first | refine blk_drewN ?_ _ | refine blk_drew ?_ | refine blk_alloc ?_ _)); exact BK530.out⟩, ⟨by repeat (first | (with_reducible first | exact HB.out | apply below_alloc | apply pw_below_drewN | apply below_drew1 | refine below_set ?_ (Aside0.out (by assumption))) | exact HB.out)⟩⟩
      · rw [if_neg c25] at H
        have c25b0 : ((t523.length : Int) == 0) = false := beq_eq_false_iff_ne.mpr c25
        have c25b1 : ((t523.length : Int) != 0) = true := bne_iff_ne.mpr c25
        have c25b2 : ¬ (t523 = []) := fun h_ => c25 (by rw [h_]; rfl)
        by_cases c27 : 0 < (t523.length : Int)
        · rw [if_pos c27] at H
          have c27b0 : decide (0 < (t523.length : Int)) = true := decide_eq_true c27
          have c27b1 : decide (0 < t523.length) = true := decide_eq_true (by omega)
          clear c27
          have H' := Aside0.mk H
          clear H
          obtain ⟨Ao28, co28, eo28⟩ := Kd.R_slice HO525.out
          subst eo28
          have p531 : 0 ≤ (0 : Int) := (by omega)
          have q531 : 0 < (t523.length : Int) := of_decide_eq_true (by first | (with_reducible assumption) | assumption)
          obtain ⟨ad531, e531, hx531_0, hx531_1⟩ := at_T26 (Kd.R_reads' HO525.out).2.2 0 p531 q531
          cases e531
          have qi531 : (0 < t523.length) = True := eq_true (by omega)
          (try rw [show ((0 : Int)).toNat = 0 from rfl] at hx531_0)
          (try rw [show 0 * 2 = 0 from rfl] at hx531_0)
          (try rw [Addr.add_zero'] at hx531_0)
          (try rw [show ((0 : Int)).toNat = 0 from rfl] at hx531_1)
          (try rw [show 0 * 2 = 0 from rfl] at hx531_1)
          (try rw [Addr.add_zero'] at hx531_1)
          have hn531_0 : ad531.block ≠ gb530 := Kd.own_blk (by first | exact Kd.R_ne HO525.out BK530.out (by decide) | (intro he_; have z_ := HO525.out.1 _ he_.symm; simp at z_))
          have hn531_1 : ad531.block ≠ gb530 := Kd.own_blk (by first | exact Kd.R_ne HO525.out BK530.out (by decide) | (intro he_; have z_ := HO525.out.1 _ he_.symm; simp at z_))
          replace hx531_0 := (cell_far (p := ⟨gb530, 0, none⟩) (by first | (rw [add_block]; exact hn531_0) | (show (Addr.add _ _).block ≠ _; rw [add_block]; exact hn531_0) | exact hn531_0) (.int .i64 t527)).trans hx531_0
          replace hx531_1 := (cell_far (p := ⟨gb530, 0, none⟩) (by first | (rw [add_block]; exact hn531_0) | (show (Addr.add _ _).block ≠ _; rw [add_block]; exact hn531_0) | exact hn531_0) (.int .i64 t527)).trans hx531_1
          replace hx531_0 := (cell_far (p := ⟨gb530, 1, none⟩) (by first | (rw [add_block]; exact hn531_1) | (show (Addr.add _ _).block ≠ _; rw [add_block]; exact hn531_1) | exact hn531_1) (.int .i64 t528)).trans hx531_0
          replace hx531_1 := (cell_far (p := ⟨gb530, 1, none⟩) (by first | (rw [add_block]; exact hn531_1) | (show (Addr.add _ _).block ≠ _; rw [add_block]; exact hn531_1) | exact hn531_1) (.int .i64 t528)).trans hx531_1
          clear hn531_0
          clear hn531_1
          replace p531 := eq_true p531
          replace q531 := eq_true q531
          go_wp2
          go_meet
          case rel => exact ⟨_, ((!(((rd_T26 t523 0).f0) == 0) || (!(((rd_T26 t523 0).f1) == 1)))), (by first | rfl | (simp; done) | (simp [*]; done)), H', ⟨by first | omega | exact Nat.le_refl _⟩, ⟨by (with_reducible repeat (first | apply Kd.R_alloc | apply Kd.R_drewN | apply Kd.R_drew)); exact Kd.R_mono (Kd.R_far (p := ⟨gb530, 1, none⟩) (Kd.R_far (p := ⟨gb530, 0, none⟩) (Kd.R_mono HO525.out (fun k_ hk => (⟨hk, hk.2⟩ : _ ∧ k_ ≠ gb530))) (fun _ hk => hk.2) (.int .i64 t527)) (fun _ hk => hk.2) (.int .i64 t528)) (fun _ hk => hk.1.2)⟩, ⟨by (with_reducible repeat (first | apply Kd.R_alloc | apply Kd.R_drewN | apply Kd.R_drew)); exact Kd.R_mono (Kd.R_far (p := ⟨gb530, 1, none⟩) (Kd.R_far (p := ⟨gb530, 0, none⟩) (Kd.R_types HO521.out BK530.out (by decide)) (fun _ hk => hk.2) (.int .i64 t527)) (fun _ hk => hk.2) (.int .i64 t528)) (fun _ hk => trivial)⟩, ⟨by (with_reducible repeat (first | refine blk_drewN ?_ _ | refine blk_drew ?_ | refine blk_alloc ?_ _)); refine blk_far ?_ NB515_530.out _; (with_reducible repeat (first | refine blk_drewN ?_ _ | refine blk_drew ?_ | refine blk_alloc ?_ _)); refine blk_far ?_ NB515_530.out _; (with_reducible repeat (first | refine blk_drewN ?_ _ | refine blk_drew ?_ | refine blk_alloc ?_ _)); exact BK515.out⟩, ⟨by (with_reducible repeat (first | refine blk_drewN ?_ _ | refine blk_drew ?_ | refine blk_alloc ?_ _)); refine blk_far ?_ NB522_530.out _; (with_reducible repeat (first | refine blk_drewN ?_ _ | refine blk_drew ?_ | refine blk_alloc ?_ _)); refine blk_far ?_ NB522_530.out _; (with_reducible repeat (first | refine blk_drewN ?_ _ | refine blk_drew ?_ | refine blk_alloc ?_ _)); exact BK522.out⟩, ⟨by (with_reducible repeat (first | refine blk_drewN ?_ _ | refine blk_drew ?_ | refine blk_alloc ?_ _)); refine blk_put (cs := #[.int .i64 t527, .int .i64 0]) ?_ 1 _ rfl; (with_reducible repeat (first | refine blk_drewN ?_ _ | refine blk_drew ?_ | refine blk_alloc ?_ _)); refine blk_put (cs := #[.int .i64 0, .int .i64 0]) ?_ 0 _ rfl; (with_reducible repeat (first | refine blk_drewN ?_ _ | refine blk_drew ?_ | refine blk_alloc ?_ _)); exact BK530.out⟩, ⟨by repeat (first | (with_reducible first | exact HB.out | apply below_alloc | apply pw_below_drewN | apply below_drew1 | refine below_set ?_ (Aside0.out (by assumption))) | exact HB.out)⟩⟩
        · rw [if_neg c27] at H
          exact absurd H (by simp)
    · rw [if_neg c24] at H
      have c24b0 : (t529 == 0) = false := beq_eq_false_iff_ne.mpr c24
      have c24b1 : (t529 != 0) = true := bne_iff_ne.mpr c24
      have H' := Aside0.mk H
      clear H
      go_wp2
      go_meet
      case rel => exact ⟨_, (true), (by first | rfl | (simp; done) | (simp [*]; done)), H', ⟨by first | omega | exact Nat.le_refl _⟩, ⟨by (with_reducible repeat (first | apply Kd.R_alloc | apply Kd.R_drewN | apply Kd.R_drew)); exact Kd.R_mono (Kd.R_far (p := ⟨gb530, 1, none⟩) (Kd.R_far (p := ⟨gb530, 0, none⟩) (Kd.R_mono HO525.out (fun k_ hk => (⟨hk, hk.2⟩ : _ ∧ k_ ≠ gb530))) (fun _ hk => hk.2) (.int .i64 t527)) (fun _ hk => hk.2) (.int .i64 t528)) (fun _ hk => hk.1.2)⟩, ⟨by (with_reducible repeat (first | apply Kd.R_alloc | apply Kd.R_drewN | apply Kd.R_drew)); exact Kd.R_mono (Kd.R_far (p := ⟨gb530, 1, none⟩) (Kd.R_far (p := ⟨gb530, 0, none⟩) (Kd.R_types HO521.out BK530.out (by decide)) (fun _ hk => hk.2) (.int .i64 t527)) (fun _ hk => hk.2) (.int .i64 t528)) (fun _ hk => trivial)⟩, ⟨by (with_reducible repeat (first | refine blk_drewN ?_ _ | refine blk_drew ?_ | refine blk_alloc ?_ _)); refine blk_far ?_ NB515_530.out _; (with_reducible repeat (first | refine blk_drewN ?_ _ | refine blk_drew ?_ | refine blk_alloc ?_ _)); refine blk_far ?_ NB515_530.out _; (with_reducible repeat (first | refine blk_drewN ?_ _ | refine blk_drew ?_ | refine blk_alloc ?_ _)); exact BK515.out⟩, ⟨by (with_reducible repeat (first | refine blk_drewN ?_ _ | refine blk_drew ?_ | refine blk_alloc ?_ _)); refine blk_far ?_ NB522_530.out _; (with_reducible repeat (first | refine blk_drewN ?_ _ | refine blk_drew ?_ | refine blk_alloc ?_ _)); refine blk_far ?_ NB522_530.out _; (with_reducible repeat (first | refine blk_drewN ?_ _ | refine blk_drew ?_ | refine blk_alloc ?_ _)); exact BK522.out⟩, ⟨by (with_reducible repeat (first | refine blk_drewN ?_ _ | refine blk_drew ?_ | refine blk_alloc ?_ _)); refine blk_put (cs := #[.int .i64 t527, .int .i64 0]) ?_ 1 _ rfl; (with_reducible repeat (first | refine blk_drewN ?_ _ | refine blk_drew ?_ | refine blk_alloc ?_ _)); refine blk_put (cs := #[.int .i64 0, .int .i64 0]) ?_ 0 _ rfl; (with_reducible repeat (first | refine blk_drewN ?_ _ | refine blk_drew ?_ | refine blk_alloc ?_ _)); exact BK530.out⟩, ⟨by repeat (first | (with_reducible first | exact HB.out | apply below_alloc | apply pw_below_drewN | apply below_drew1 | refine below_set ?_ (Aside0.out (by assumption))) | exact HB.out)⟩⟩
  · rw [if_neg c23] at H
    have c23b0 : (t526 == 0) = false := beq_eq_false_iff_ne.mpr c23
    have c23b1 : (t526 != 0) = true := bne_iff_ne.mpr c23
    (first | rw [c23b0] | (simp only [i64_w, i32_w]; rw [c23b0]) | skip)
    have H' := Aside0.mk H
    clear H
    go_wp2
    go_meet
    case rel => exact ⟨_, (true), (by first | rfl | (simp; done) | (simp [*]; done)), H', ⟨by first | omega | exact Nat.le_refl _⟩, ⟨by (with_reducible repeat (first | apply Kd.R_alloc | apply Kd.R_drewN | apply Kd.R_drew)); exact Kd.R_mono (Kd.R_far (p := ⟨gb530, 1, none⟩) (Kd.R_far (p := ⟨gb530, 0, none⟩) (Kd.R_mono HO525.out (fun k_ hk => (⟨hk, hk.2⟩ : _ ∧ k_ ≠ gb530))) (fun _ hk => hk.2) (.int .i64 t527)) (fun _ hk => hk.2) (.int .i64 t528)) (fun _ hk => hk.1.2)⟩, ⟨by (with_reducible repeat (first | apply Kd.R_alloc | apply Kd.R_drewN | apply Kd.R_drew)); exact Kd.R_mono (Kd.R_far (p := ⟨gb530, 1, none⟩) (Kd.R_far (p := ⟨gb530, 0, none⟩) (Kd.R_types HO521.out BK530.out (by decide)) (fun _ hk => hk.2) (.int .i64 t527)) (fun _ hk => hk.2) (.int .i64 t528)) (fun _ hk => trivial)⟩, ⟨by (with_reducible repeat (first | refine blk_drewN ?_ _ | refine blk_drew ?_ | refine blk_alloc ?_ _)); refine blk_far ?_ NB515_530.out _; (with_reducible repeat (first | refine blk_drewN ?_ _ | refine blk_drew ?_ | refine blk_alloc ?_ _)); refine blk_far ?_ NB515_530.out _; (with_reducible repeat (first | refine blk_drewN ?_ _ | refine blk_drew ?_ | refine blk_alloc ?_ _)); exact BK515.out⟩, ⟨by (with_reducible repeat (first | refine blk_drewN ?_ _ | refine blk_drew ?_ | refine blk_alloc ?_ _)); refine blk_far ?_ NB522_530.out _; (with_reducible repeat (first | refine blk_drewN ?_ _ | refine blk_drew ?_ | refine blk_alloc ?_ _)); refine blk_far ?_ NB522_530.out _; (with_reducible repeat (first | refine blk_drewN ?_ _ | refine blk_drew ?_ | refine blk_alloc ?_ _)); exact BK522.out⟩, ⟨by (with_reducible repeat (first | refine blk_drewN ?_ _ | refine blk_drew ?_ | refine blk_alloc ?_ _)); refine blk_put (cs := #[.int .i64 t527, .int .i64 0]) ?_ 1 _ rfl; (with_reducible repeat (first | refine blk_drewN ?_ _ | refine blk_drew ?_ | refine blk_alloc ?_ _)); refine blk_put (cs := #[.int .i64 0, .int .i64 0]) ?_ 0 _ rfl; (with_reducible repeat (first | refine blk_drewN ?_ _ | refine blk_drew ?_ | refine blk_alloc ?_ _)); exact BK530.out⟩, ⟨by repeat (first | (with_reducible first | exact HB.out | apply below_alloc | apply pw_below_drewN | apply below_drew1 | refine below_set ?_ (Aside0.out (by assumption))) | exact HB.out)⟩⟩
 case rest =>
  clear HC7
  try clear c1
  try clear c2
  try clear p2
  try clear p5
  try clear q5
  try clear hx5
  try clear qi5
  try clear c9
  try clear c10
  try clear c11
  try clear c12
  try clear c13
  try clear c14
  try clear c20
  try clear c21
  try clear c23
  try clear c23b0
  try clear c23b1
  try clear c24
  try clear c24b0
  try clear c24b1
  try clear c25
  try clear c25b0
  try clear c25b1
  try clear c25b2
  try clear c27
  try clear c27b0
  try clear c27b1
  try clear hcz10_0
  try clear hcz10_1
  try clear hcz10_2
  try clear hcz14_0
  try clear hcz14_1
  try clear hcz14_2
  try clear hcz17_0
  try clear hcz17_1
  try clear hcz17_2
  try clear hcz22_0
  try clear hcz22_1
  try clear hfz10_0
  try clear hfz10_1
  try clear hfz10_2
  try clear hfz14_0
  try clear hfz14_1
  try clear hfz14_2
  try clear hfz17_0
  try clear hfz17_1
  try clear hfz17_2
  try clear hfz22_0
  try clear hfz22_1
  try clear hx531_0
  try clear hx531_1
  try clear p531
  try clear q531
  obtain ⟨kq, x49_6, rfl, HA, HJ6, HO_7, HO_523002, BK515, BK522, BK530, HB⟩ := hcut
  cases kq with
  | zero => exact absurd HA.out (by simp [partitalaw05_MeterBeats.j0])
  | succ kj6 =>
   have H := HA.out
   clear HA
   simp only [partitalaw05_MeterBeats.j0] at H
   by_cases c29 : x49_6 = true
   · subst c29
     have H1 : none = some r := by rw [if_pos rfl] at H; exact H
     cases H1
   · replace c29 := Bool.eq_false_iff.mpr c29
     subst c29
     have H1 : (partitalaw05_MeterBeats.l0 kj6 a1 t516 t523 0 0 t517 t518 t519 t527 t528) = some r := by rw [if_neg (show ¬ (false = true) by decide)] at H; exact H
     clear H
     have H := H1
     clear H1
     have H' := Aside0.mk H
     clear H
     go_wp2
     go_loopg [11, 12] kj6 (fun kq v11 v12 w' => ∃ (x11_2 : Int) (x12_2 : Int), v11 = .int .i64 x11_2 ∧ v12 = .int .i64 x12_2 ∧ Aside0 (partitalaw05_MeterBeats.l0 kq a1 t516 t523 x11_2 x12_2 t517 t518 t519 t527 t528 = some r) ∧ Aside0 (kq ≤ kj6) ∧ Aside0 (Kd.R k26 26 w' w.heap.size (fun k_ => k_ ≠ gb530) v524 t523) ∧ Aside0 (Kd.R (Kd.int .i64) 3 w' w.heap.size (fun _ => True) (.slice Ao15 t519.length co15) t519) ∧ Aside0 (w'.heap[gb515]? = some (.cells #[.int .i64 a0_0, .int .i64 a0_1, (.slice A0_2 l0_2.length c0_2)] 24 (0, 0))) ∧ Aside0 (w'.heap[gb522]? = some (.cells #[.int .i64 t517, .int .i64 t518, (.slice Ao15 t519.length co15)] 24 (0, 0))) ∧ Aside0 (w'.heap[gb530]? = some (.cells #[.int .i64 t527, .int .i64 t528] 26 (0, 0))) ∧ Aside0 (Below w.heap.size w w'))
     case atStart => exact ⟨(0), (0), (by first | rfl | (simp; done) | (simp [*]; done)), (by first | rfl | (simp; done) | (simp [*]; done)), H', ⟨Nat.le_refl _⟩, ⟨by (with_reducible repeat (first | apply Kd.R_alloc | apply Kd.R_drewN | apply Kd.R_drew)); exact HO_7.out⟩, ⟨by (with_reducible repeat (first | apply Kd.R_alloc | apply Kd.R_drewN | apply Kd.R_drew)); exact HO_523002.out⟩, ⟨by (with_reducible repeat (first | refine blk_drewN ?_ _ | refine blk_drew ?_ | refine blk_alloc ?_ _)); exact BK515.out⟩, ⟨by (with_reducible repeat (first | refine blk_drewN ?_ _ | refine blk_drew ?_ | refine blk_alloc ?_ _)); exact BK522.out⟩, ⟨by (with_reducible repeat (first | refine blk_drewN ?_ _ | refine blk_drew ?_ | refine blk_alloc ?_ _)); exact BK530.out⟩, ⟨by repeat (first | (with_reducible first | exact HB.out | apply below_alloc | apply pw_below_drewN | apply below_drew1 | refine below_set ?_ (Aside0.out (by assumption))) | exact HB.out)⟩⟩
     case round =>
      clear H'
      try clear c1
      try clear c2
      try clear p2
      try clear p5
      try clear q5
      try clear hx5
      try clear qi5
      try clear c9
      try clear c10
      try clear c11
      try clear c12
      try clear c13
      try clear c14
      try clear c20
      try clear c21
      try clear c23
      try clear c23b0
      try clear c23b1
      try clear c24
      try clear c24b0
      try clear c24b1
      try clear c25
      try clear c25b0
      try clear c25b1
      try clear c25b2
      try clear c27
      try clear c27b0
      try clear c27b1
      try clear c29
      try clear hcz10_0
      try clear hcz10_1
      try clear hcz10_2
      try clear hcz14_0
      try clear hcz14_1
      try clear hcz14_2
      try clear hcz17_0
      try clear hcz17_1
      try clear hcz17_2
      try clear hcz22_0
      try clear hcz22_1
      try clear hfz10_0
      try clear hfz10_1
      try clear hfz10_2
      try clear hfz14_0
      try clear hfz14_1
      try clear hfz14_2
      try clear hfz17_0
      try clear hfz17_1
      try clear hfz17_2
      try clear hfz22_0
      try clear hfz22_1
      try clear hx531_0
      try clear hx531_1
      try clear p2
      try clear p5
      try clear p531
      try clear q5
      try clear q531
      obtain ⟨x11_2, x12_2, rfl, rfl, HA, HK2, HO_7, HO_523002, BK515, BK522, BK530, HB⟩ := hrel
      cases gk with
      | zero => exact absurd HA.out (by simp [partitalaw05_MeterBeats.l0])
      | succ k2 =>
       have H := HA.out
       clear HA
       simp only [partitalaw05_MeterBeats.l0] at H
       by_cases c30 : x12_2 < (t523.length : Int)
       · rw [if_pos c30] at H
         have c30b0 : decide (x12_2 < (t523.length : Int)) = true := decide_eq_true c30
         clear c30
         have HC31 := Aside0.mk H
         clear H
         obtain ⟨Ao32, co32, eo32⟩ := Kd.R_slice HO_7.out
         subst eo32
         have hnb33 := NB530_515.out
         have hnc33 := NB515_530.out
         have hnb34 := NB530_522.out
         have hnc34 := NB522_530.out
         have hcz35_0 : wr.cell? ⟨gb530, 0, none⟩ = some (.int .i64 t527) := (blk_cell BK530.out 0).trans rfl
         have hcz35_1 : wr.cell? ⟨gb530, 1, none⟩ = some (.int .i64 t528) := (blk_cell BK530.out 1).trans rfl
         have hfz35_0 := blk_frozen BK530.out 0
         have hfz35_1 := blk_frozen BK530.out 1
         go_upto_if 61 with (first | ((with_reducible refine gate_dst (N := 13) rfl ?_); (try (refine gate_guard (by rfl) ?_; dsimp only)); refine box_event ?hg (N := 13) ?hd (cs := #[.int .i64 0, .int .i64 0]) (t := 26) ?hr ?_; (case hd => rfl); (case hg => rfl); (case hr => first | (go_simp; done) | (go_simp; rfl)); intro gb532 hg w36 hbox hb; have n0_ := Aside0.mk (Kd.R_below (Kd.R_elderB (qR HO_7.out) gb532 (Nat.le_of_eq hg.symm)) hb); have n1_ := Aside0.mk (Kd.R_below (qR HO_523002.out) hb); have n2_ := Aside0.mk (blk_below (qB BK515.out) hb); have n3_ := Aside0.mk (blk_below (qB BK522.out) hb); have n4_ := Aside0.mk (blk_below (qB BK530.out) hb); have n5_ := Aside0.mk (below_step (by repeat (first | (with_reducible first | exact HB.out | apply below_alloc | apply pw_below_drewN | apply below_drew1 | refine below_set ?_ (Aside0.out (by assumption))) | exact HB.out)) hb); have n6_ := Aside0.mk (hbox); have n7_ := Aside0.mk ((by rw [hg]; exact (below_size (by repeat (first | (with_reducible first | exact HB.out | apply below_alloc | apply pw_below_drewN | apply below_drew1 | refine below_set ?_ (Aside0.out (by assumption))) | exact HB.out))) : w.heap.size ≤ gb532)); have n8_ := Aside0.mk ((by rw [hg]; exact (below_size (by repeat (first | (with_reducible first | exact HB.out | apply below_alloc | apply pw_below_drewN | apply below_drew1 | refine below_set ?_ (Aside0.out (by assumption))) | exact HB.out))) : w.heap.size ≤ gb532)); have n9_ := Aside0.mk ((by rw [hg]; exact Nat.ne_of_lt (blk_lt (qB BK515.out)) : gb515 ≠ gb532)); have n10_ := Aside0.mk ((by rw [hg]; exact Nat.ne_of_gt (blk_lt (qB BK515.out)) : gb532 ≠ gb515)); have n11_ := Aside0.mk ((by rw [hg]; exact Nat.ne_of_lt (blk_lt (qB BK522.out)) : gb522 ≠ gb532)); have n12_ := Aside0.mk ((by rw [hg]; exact Nat.ne_of_gt (blk_lt (qB BK522.out)) : gb532 ≠ gb522)); have n13_ := Aside0.mk ((by rw [hg]; exact Nat.ne_of_lt (blk_lt (qB BK530.out)) : gb530 ≠ gb532)); have n14_ := Aside0.mk ((by rw [hg]; exact Nat.ne_of_gt (blk_lt (qB BK530.out)) : gb532 ≠ gb530)); clear HO_7; clear HO_523002; clear BK515; clear BK522; clear BK530; clear HB; have HO_7 := n0_; have HO_523002 := n1_; have BK515 := n2_; have BK522 := n3_; have BK530 := n4_; have HB := n5_; have BK532 := n6_; have GW532 := n7_; have GE532 := n8_; have NB515_532 := n9_; have NB532_515 := n10_; have NB522_532 := n11_; have NB532_522 := n12_; have NB530_532 := n13_; have NB532_530 := n14_; clear n0_ n1_ n2_ n3_ n4_ n5_ n6_ n7_ n8_ n9_ n10_ n11_ n12_ n13_ n14_; clear hb hbox hg; have hnb37 := NB532_515.out; have hnc37 := NB515_532.out; have hnb38 := NB532_522.out; have hnc38 := NB522_532.out; have hnb39 := NB532_530.out; have hnc39 := NB530_532.out; have hcz40_0 : w36.cell? ⟨gb532, 0, none⟩ = some (.int .i64 0) := (blk_cell BK532.out 0).trans rfl; have hcz40_1 : w36.cell? ⟨gb532, 1, none⟩ = some (.int .i64 0) := (blk_cell BK532.out 1).trans rfl; have hfz40_0 := blk_frozen BK532.out 0; have hfz40_1 := blk_frozen BK532.out 1))
         (try simp only [Act.put, qa_, qz_, qs_])
         go_cut [] (fun wc => ∃ (kq : Nat) (x533000_30 : Int) (x533001_30 : Int), Aside0 (partitalaw05_MeterBeats.j2 kq a1 t516 t523 x11_2 x12_2 t517 t518 t519 t527 t528 x533000_30 x533001_30 = some r) ∧ Aside0 (kq ≤ k2) ∧ Aside0 (Kd.R k26 26 wc w.heap.size (fun k_ => k_ ≠ gb530 ∧ k_ ≠ gb532) (.slice Ao32 t523.length co32) t523) ∧ Aside0 (Kd.R (Kd.int .i64) 3 wc w.heap.size (fun _ => True) (.slice Ao15 t519.length co15) t519) ∧ Aside0 (wc.heap[gb515]? = some (.cells #[.int .i64 a0_0, .int .i64 a0_1, (.slice A0_2 l0_2.length c0_2)] 24 (0, 0))) ∧ Aside0 (wc.heap[gb522]? = some (.cells #[.int .i64 t517, .int .i64 t518, (.slice Ao15 t519.length co15)] 24 (0, 0))) ∧ Aside0 (wc.heap[gb530]? = some (.cells #[.int .i64 t527, .int .i64 t528] 26 (0, 0))) ∧ Aside0 (wc.heap[gb532]? = some (.cells #[.int .i64 x533000_30, .int .i64 x533001_30] 26 (0, 0))) ∧ Aside0 (Below w.heap.size w wc))
         case first =>
          have H := HC31.out
          clear HC31
          by_cases c41 : (wrap64 (x12_2 + 1)) < (t523.length : Int)
          · rw [if_pos c41] at H
            have c41b0 : decide ((wrap64 (x12_2 + 1)) < (t523.length : Int)) = true := decide_eq_true c41
            clear c41
            (first | rw [c41b0] | (simp only [i64_w, i32_w]; rw [c41b0]) | skip)
            obtain ⟨ji42, hji42⟩ : ∃ j_ : Int, (wrap64 (x12_2 + 1)) = j_ := ⟨_, rfl⟩
            replace H : (if 0 ≤ (ji42) then (partitalaw05_MeterBeats.j2 k2 a1 t516 t523 x11_2 x12_2 t517 t518 t519 t527 t528 ((rd_T26 t523 (ji42)).f0) ((rd_T26 t523 (ji42)).f1)) else (none)) = some r := by first | (rw [hji42] at H; exact H) | (simp only [hji42] at H ⊢; exact H)
            (try rw [hji42] at c41b0)
            have hji42w : (IntKind.i64.wrap (x12_2 + 1)) = ji42 := (i64_w _).trans hji42
            by_cases c43 : 0 ≤ (ji42)
            · rw [if_pos c43] at H
              have c43b0 : decide (0 ≤ (ji42)) = true := decide_eq_true c43
              clear c43
              have H' := Aside0.mk H
              clear H
              have p533 : 0 ≤ ((ji42) : Int) := of_decide_eq_true (by first | (with_reducible assumption) | assumption)
              have q533 : (ji42) < (t523.length : Int) := of_decide_eq_true (by first | (with_reducible assumption) | assumption)
              obtain ⟨ad533, e533, hx533_0, hx533_1⟩ := at_T26 (Kd.R_reads' HO_7.out).2.2 (ji42) p533 q533
              cases e533
              have hn533_0 : ad533.block ≠ gb532 := Kd.own_blk (by first | exact Kd.R_ne HO_7.out BK532.out (by decide) | (intro he_; have z_ := HO_7.out.1 _ he_.symm; simp at z_))
              have hn533_1 : ad533.block ≠ gb532 := Kd.own_blk (by first | exact Kd.R_ne HO_7.out BK532.out (by decide) | (intro he_; have z_ := HO_7.out.1 _ he_.symm; simp at z_))
              replace hx533_0 := (cell_far (p := ⟨gb532, 0, none⟩) (by first | (rw [add_block]; exact hn533_0) | (show (Addr.add _ _).block ≠ _; rw [add_block]; exact hn533_0) | exact hn533_0) (.int .i64 t527)).trans hx533_0
              replace hx533_1 := (cell_far (p := ⟨gb532, 0, none⟩) (by first | (rw [add_block]; exact hn533_0) | (show (Addr.add _ _).block ≠ _; rw [add_block]; exact hn533_0) | exact hn533_0) (.int .i64 t527)).trans hx533_1
              replace hx533_0 := (cell_far (p := ⟨gb532, 1, none⟩) (by first | (rw [add_block]; exact hn533_1) | (show (Addr.add _ _).block ≠ _; rw [add_block]; exact hn533_1) | exact hn533_1) (.int .i64 t528)).trans hx533_0
              replace hx533_1 := (cell_far (p := ⟨gb532, 1, none⟩) (by first | (rw [add_block]; exact hn533_1) | (show (Addr.add _ _).block ≠ _; rw [add_block]; exact hn533_1) | exact hn533_1) (.int .i64 t528)).trans hx533_1
              clear hn533_0
              clear hn533_1
              replace p533 := eq_true p533
              replace q533 := eq_true q533
              have hnb44 := NB532_515.out
              have hnc44 := NB515_532.out
              have hnb45 := NB532_522.out
              have hnc45 := NB522_532.out
              have hnb46 := NB532_530.out
              have hnc46 := NB530_532.out
              have hcz47_0 : w36.cell? ⟨gb532, 0, none⟩ = some (.int .i64 0) := (blk_cell BK532.out 0).trans rfl
              have hcz47_1 : w36.cell? ⟨gb532, 1, none⟩ = some (.int .i64 0) := (blk_cell BK532.out 1).trans rfl
              have hfz47_0 := blk_frozen BK532.out 0
              have hfz47_1 := blk_frozen BK532.out 1
              go_wp2
              go_meet
              case rel => exact ⟨_, ((rd_T26 t523 (ji42)).f0), ((rd_T26 t523 (ji42)).f1), H', ⟨by have := HJ6.out; have := HK2.out; first | omega | exact Nat.le_refl _⟩, ⟨by (with_reducible repeat (first | apply Kd.R_alloc | apply Kd.R_drewN | apply Kd.R_drew)); exact Kd.R_mono (Kd.R_far (p := ⟨gb532, 1, none⟩) (Kd.R_far (p := ⟨gb532, 0, none⟩) (Kd.R_far (p := ⟨gb532, 1, none⟩) (Kd.R_far (p := ⟨gb532, 0, none⟩) (Kd.R_mono HO_7.out (fun k_ hk => (⟨hk, hk.2⟩ : _ ∧ k_ ≠ gb532))) (fun _ hk => hk.2) (.int .i64 t527)) (fun _ hk => hk.2) (.int .i64 t528)) (fun _ hk => hk.2) (.int .i64 ((rd_T26 t523 (ji42)).f0))) (fun _ hk => hk.2) (.int .i64 ((rd_T26 t523 (ji42)).f1))) (fun _ hk => ⟨hk.1.1, hk.1.2⟩)⟩, ⟨by (with_reducible repeat (first | apply Kd.R_alloc | apply Kd.R_drewN | apply Kd.R_drew)); exact Kd.R_mono (Kd.R_far (p := ⟨gb532, 1, none⟩) (Kd.R_far (p := ⟨gb532, 0, none⟩) (Kd.R_far (p := ⟨gb532, 1, none⟩) (Kd.R_far (p := ⟨gb532, 0, none⟩) (Kd.R_types HO_523002.out BK532.out (by decide)) (fun _ hk => hk.2) (.int .i64 t527)) (fun _ hk => hk.2) (.int .i64 t528)) (fun _ hk => hk.2) (.int .i64 ((rd_T26 t523 (ji42)).f0))) (fun _ hk => hk.2) (.int .i64 ((rd_T26 t523 (ji42)).f1))) (fun _ hk => trivial)⟩, ⟨by (with_reducible repeat (first | refine blk_drewN ?_ _ | refine blk_drew ?_ | refine blk_alloc ?_ _)); refine blk_far ?_ NB515_532.out _; (with_reducible repeat (first | refine blk_drewN ?_ _ | refine blk_drew ?_ | refine blk_alloc ?_ _)); refine blk_far ?_ NB515_532.out _; (with_reducible repeat (first | refine blk_drewN ?_ _ | refine blk_drew ?_ | refine blk_alloc ?_ _)); refine blk_far ?_ NB515_532.out _; (with_reducible repeat (first | refine blk_drewN ?_ _ | refine blk_drew ?_ | refine blk_alloc ?_ _)); refine blk_far ?_ NB515_532.out _; (with_reducible repeat (first | refine blk_drewN ?_ _ | refine blk_drew ?_ | refine blk_alloc ?_ _)); exact BK515.out⟩, ⟨by (with_reducible repeat (first | refine blk_drewN ?_ _ | refine blk_drew ?_ | refine blk_alloc ?_ _)); refine blk_far ?_ NB522_532.out _; (with_reducible repeat (first | refine blk_drewN ?_ _ | refine blk_drew ?_ | refine blk_alloc ?_ _)); refine blk_far ?_ NB522_532.out _; (with_reducible repeat (first | refine blk_drewN ?_ _ | refine blk_drew ?_ | refine blk_alloc ?_ _)); refine blk_far ?_ NB522_532.out _; (with_reducible repeat (first | refine blk_drewN ?_ _ | refine blk_drew ?_ | refine blk_alloc ?_ _)); refine blk_far ?_ NB522_532.out _; (with_reducible repeat (first | refine blk_drewN ?_ _ | refine blk_drew ?_ | refine blk_alloc ?_ _)); exact BK522.out⟩, ⟨by (with_reducible repeat (first | refine blk_drewN ?_ _ | refine blk_drew ?_ | refine blk_alloc ?_ _)); refine blk_far ?_ NB530_532.out _; (with_reducible repeat (first | refine blk_drewN ?_ _ | refine blk_drew ?_ | refine blk_alloc ?_ _)); refine blk_far ?_ NB530_532.out _; (with_reducible repeat (first | refine blk_drewN ?_ _ | refine blk_drew ?_ | refine blk_alloc ?_ _)); refine blk_far ?_ NB530_532.out _; (with_reducible repeat (first | refine blk_drewN ?_ _ | refine blk_drew ?_ | refine blk_alloc ?_ _)); refine blk_far ?_ NB530_532.out _; (with_reducible repeat (first | refine blk_drewN ?_ _ | refine blk_drew ?_ | refine blk_alloc ?_ _)); exact BK530.out⟩, ⟨by (with_reducible repeat (first | refine blk_drewN ?_ _ | refine blk_drew ?_ | refine blk_alloc ?_ _)); refine blk_put (cs := #[.int .i64 ((rd_T26 t523 (ji42)).f0), .int .i64 t528]) ?_ 1 _ rfl; (with_reducible repeat (first | refine blk_drewN ?_ _ | refine blk_drew ?_ | refine blk_alloc ?_ _)); refine blk_put (cs := #[.int .i64 t527, .int .i64 t528]) ?_ 0 _ rfl; (with_reducible repeat (first | refine blk_drewN ?_ _ | refine blk_drew ?_ | refine blk_alloc ?_ _)); refine blk_put (cs := #[.int .i64 t527, .int .i64 0]) ?_ 1 _ rfl; (with_reducible repeat (first | refine blk_drewN ?_ _ | refine blk_drew ?_ | refine blk_alloc ?_ _)); refine blk_put (cs := #[.int .i64 0, .int .i64 0]) ?_ 0 _ rfl; (with_reducible repeat (first | refine blk_drewN ?_ _ | refine blk_drew ?_ | refine blk_alloc ?_ _)); exact BK532.out⟩, ⟨by repeat (first | (with_reducible first | exact HB.out | apply below_alloc | apply pw_below_drewN | apply below_drew1 | refine below_set ?_ (Aside0.out (by assumption))) | exact HB.out)⟩⟩
            · rw [if_neg c43] at H
              exact absurd H (by simp)
          · rw [if_neg c41] at H
            have c41b0 : decide ((wrap64 (x12_2 + 1)) < (t523.length : Int)) = false := decide_eq_false c41
            clear c41
            (first | rw [c41b0] | (simp only [i64_w, i32_w]; rw [c41b0]) | skip)
            have H' := Aside0.mk H
            clear H
            go_wp2
            go_meet
            case rel => exact ⟨_, (t527), (t528), H', ⟨by have := HJ6.out; have := HK2.out; first | omega | exact Nat.le_refl _⟩, ⟨by (with_reducible repeat (first | apply Kd.R_alloc | apply Kd.R_drewN | apply Kd.R_drew)); exact Kd.R_mono (Kd.R_far (p := ⟨gb532, 1, none⟩) (Kd.R_far (p := ⟨gb532, 0, none⟩) (Kd.R_mono HO_7.out (fun k_ hk => (⟨hk, hk.2⟩ : _ ∧ k_ ≠ gb532))) (fun _ hk => hk.2) (.int .i64 t527)) (fun _ hk => hk.2) (.int .i64 t528)) (fun _ hk => ⟨hk.1.1, hk.1.2⟩)⟩, ⟨by (with_reducible repeat (first | apply Kd.R_alloc | apply Kd.R_drewN | apply Kd.R_drew)); exact Kd.R_mono (Kd.R_far (p := ⟨gb532, 1, none⟩) (Kd.R_far (p := ⟨gb532, 0, none⟩) (Kd.R_types HO_523002.out BK532.out (by decide)) (fun _ hk => hk.2) (.int .i64 t527)) (fun _ hk => hk.2) (.int .i64 t528)) (fun _ hk => trivial)⟩, ⟨by (with_reducible repeat (first | refine blk_drewN ?_ _ | refine blk_drew ?_ | refine blk_alloc ?_ _)); refine blk_far ?_ NB515_532.out _; (with_reducible repeat (first | refine blk_drewN ?_ _ | refine blk_drew ?_ | refine blk_alloc ?_ _)); refine blk_far ?_ NB515_532.out _; (with_reducible repeat (first | refine blk_drewN ?_ _ | refine blk_drew ?_ | refine blk_alloc ?_ _)); exact BK515.out⟩, ⟨by (with_reducible repeat (first | refine blk_drewN ?_ _ | refine blk_drew ?_ | refine blk_alloc ?_ _)); refine blk_far ?_ NB522_532.out _; (with_reducible repeat (first | refine blk_drewN ?_ _ | refine blk_drew ?_ | refine blk_alloc ?_ _)); refine blk_far ?_ NB522_532.out _; (with_reducible repeat (first | refine blk_drewN ?_ _ | refine blk_drew ?_ | refine blk_alloc ?_ _)); exact BK522.out⟩, ⟨by (with_reducible repeat (first | refine blk_drewN ?_ _ | refine blk_drew ?_ | refine blk_alloc ?_ _)); refine blk_far ?_ NB530_532.out _; (with_reducible repeat (first | refine blk_drewN ?_ _ | refine blk_drew ?_ | refine blk_alloc ?_ _)); refine blk_far ?_ NB530_532.out _; (with_reducible repeat (first | refine blk_drewN ?_ _ | refine blk_drew ?_ | refine blk_alloc ?_ _)); exact BK530.out⟩, ⟨by (with_reducible repeat (first | refine blk_drewN ?_ _ | refine blk_drew ?_ | refine blk_alloc ?_ _)); refine blk_put (cs := #[.int .i64 t527, .int .i64 0]) ?_ 1 _ rfl; (with_reducible repeat (first | refine blk_drewN ?_ _ | refine blk_drew ?_ | refine blk_alloc ?_ _)); refine blk_put (cs := #[.int .i64 0, .int .i64 0]) ?_ 0 _ rfl; (with_reducible repeat (first | refine blk_drewN ?_ _ | refine blk_drew ?_ | refine blk_alloc ?_ _)); exact BK532.out⟩, ⟨by repeat (first | (with_reducible first | exact HB.out | apply below_alloc | apply pw_below_drewN | apply below_drew1 | refine below_set ?_ (Aside0.out (by assumption))) | exact HB.out)⟩⟩
         case rest =>
          clear HC31
          try clear c1
          try clear c2
          try clear p2
          try clear c3
          try clear c4
          try clear p5
          try clear q5
          try clear hx5
          try clear qi5
          try clear p6
          try clear c9
          try clear c10
          try clear c11
          try clear c12
          try clear c13
          try clear c14
          try clear c20
          try clear c21
          try clear c23
          try clear c23b0
          try clear c23b1
          try clear c24
          try clear c24b0
          try clear c24b1
          try clear c25
          try clear c25b0
          try clear c25b1
          try clear c25b2
          try clear c27
          try clear c27b0
          try clear c27b1
          try clear c29
          try clear c30
          try clear c30b0
          try clear c33
          try clear c34
          try clear c37
          try clear c38
          try clear c39
          try clear c41
          try clear c41b0
          try clear c43
          try clear c43b0
          try clear c44
          try clear c45
          try clear c46
          try clear hcz10_0
          try clear hcz10_1
          try clear hcz10_2
          try clear hcz14_0
          try clear hcz14_1
          try clear hcz14_2
          try clear hcz17_0
          try clear hcz17_1
          try clear hcz17_2
          try clear hcz22_0
          try clear hcz22_1
          try clear hcz35_0
          try clear hcz35_1
          try clear hcz40_0
          try clear hcz40_1
          try clear hcz47_0
          try clear hcz47_1
          try clear hfz10_0
          try clear hfz10_1
          try clear hfz10_2
          try clear hfz14_0
          try clear hfz14_1
          try clear hfz14_2
          try clear hfz17_0
          try clear hfz17_1
          try clear hfz17_2
          try clear hfz22_0
          try clear hfz22_1
          try clear hfz35_0
          try clear hfz35_1
          try clear hfz40_0
          try clear hfz40_1
          try clear hfz47_0
          try clear hfz47_1
          try clear hx531_0
          try clear hx531_1
          try clear hx533_0
          try clear hx533_1
          try clear p2
          try clear p5
          try clear p531
          try clear p533
          try clear q5
          try clear q531
          try clear q533
          obtain ⟨kq, x533000_30, x533001_30, HA, HJ30, HO_7, HO_523002, BK515, BK522, BK530, BK532, HB⟩ := hcut
          cases kq with
          | zero => exact absurd HA.out (by simp [partitalaw05_MeterBeats.j2])
          | succ kj30 =>
           have H := HA.out
           clear HA
           simp only [partitalaw05_MeterBeats.j2] at H
           by_cases c48 : 0 ≤ x12_2
           · rw [if_pos c48] at H
             have c48b0 : decide (0 ≤ x12_2) = true := decide_eq_true c48
             clear c48
             by_cases c49 : x12_2 < (t523.length : Int)
             · rw [if_pos c49] at H
               have c49b0 : decide (x12_2 < (t523.length : Int)) = true := decide_eq_true c49
               clear c49
               replace H := Option.bind_eq_some_iff.mp H
               obtain ⟨⟨t535, t536, t537⟩, A500, H⟩ := H
               replace H : ((ratio_Mul.f t535 t536 t518 1).bind fun bt539 => (if t537 = 0 then (if bt539.2.2 = 0 then (if bt539.2.1 = 1 then (partitalaw05_MeterBeats.j3 kj30 a1 t516 t523 x11_2 x12_2 (decide (bt539.1 < 1)) t517 t518 t519 t527 t528 bt539.1 bt539.2.1) else (partitalaw05_MeterBeats.j3 kj30 a1 t516 t523 x11_2 x12_2 true t517 t518 t519 t527 t528 bt539.1 bt539.2.1)) else (partitalaw05_MeterBeats.j3 kj30 a1 t516 t523 x11_2 x12_2 true t517 t518 t519 t527 t528 bt539.1 bt539.2.1)) else (partitalaw05_MeterBeats.j3 kj30 a1 t516 t523 x11_2 x12_2 true t517 t518 t519 t527 t528 bt539.1 bt539.2.1))) = some r := H
               have A50 := Aside0.mk A500
               clear A500
               replace H := Option.bind_eq_some_iff.mp H
               obtain ⟨⟨t539, t540, t541⟩, A510, H⟩ := H
               replace H : (if t537 = 0 then (if t541 = 0 then (if t540 = 1 then (partitalaw05_MeterBeats.j3 kj30 a1 t516 t523 x11_2 x12_2 (decide (t539 < 1)) t517 t518 t519 t527 t528 t539 t540) else (partitalaw05_MeterBeats.j3 kj30 a1 t516 t523 x11_2 x12_2 true t517 t518 t519 t527 t528 t539 t540)) else (partitalaw05_MeterBeats.j3 kj30 a1 t516 t523 x11_2 x12_2 true t517 t518 t519 t527 t528 t539 t540)) else (partitalaw05_MeterBeats.j3 kj30 a1 t516 t523 x11_2 x12_2 true t517 t518 t519 t527 t528 t539 t540)) = some r := H
               have A51 := Aside0.mk A510
               clear A510
               have HC52 := Aside0.mk H
               clear H
               try go_wp2
               have n0_ := Aside0.mk (Kd.R_drew HO_7.out)
               have n1_ := Aside0.mk (Kd.R_drew HO_523002.out)
               have n2_ := Aside0.mk (blk_drew BK515.out)
               have n3_ := Aside0.mk (blk_drew BK522.out)
               have n4_ := Aside0.mk (blk_drew BK530.out)
               have n5_ := Aside0.mk (blk_drew BK532.out)
               have n6_ := Aside0.mk (below_drew1 HB.out)
               clear HO_7
               clear HO_523002
               clear BK515
               clear BK522
               clear BK530
               clear BK532
               clear HB
               have HO_7 := n0_
               have HO_523002 := n1_
               have BK515 := n2_
               have BK522 := n3_
               have BK530 := n4_
               have BK532 := n5_
               have HB := n6_
               clear n0_ n1_ n2_ n3_ n4_ n5_ n6_
               have p534 : 0 ≤ (x12_2 : Int) := of_decide_eq_true (by first | (with_reducible assumption) | assumption)
               have q534 : x12_2 < (t523.length : Int) := of_decide_eq_true (by first | (with_reducible assumption) | assumption)
               obtain ⟨ad534, e534, hx534_0, hx534_1⟩ := at_T26 (Kd.R_reads' HO_7.out).2.2 x12_2 p534 q534
               cases e534
               replace p534 := eq_true p534
               replace q534 := eq_true q534
               refine start_ (n := 12) (S := fun w' => w'.cell? ⟨gb532, 0, none⟩ = some (.int .i64 x533000_30) ∧ w'.cell? ⟨gb532, 1, none⟩ = some (.int .i64 x533001_30) ∧ w'.cell? (ad534.add ((x12_2).toNat * 2)) = some (.int .i64 ((rd_T26 t523 x12_2).f0)) ∧ w'.cell? ⟨(ad534.add ((x12_2).toNat * 2)).block, (ad534.add ((x12_2).toNat * 2)).off + 1, none⟩ = some (.int .i64 ((rd_T26 t523 x12_2).f1))) (ds := []) #[false, false, false, false, false, false, false, false, false, false, false, false] (by kernel_rfl) rfl rfl ⟨(blk_cell BK532.out 0).trans rfl, (blk_cell BK532.out 1).trans rfl, hx534_0, hx534_1⟩ (fun hHeld => ?_); refine with_tabW partitalaw05_MeterBeats.tab14 partitalaw05_MeterBeats.bits14 (fun HT_ HW_ => ?_)
               generalize wc.drew = w53 at HO_7 HO_523002 BK515 BK522 BK530 BK532 HB hx534_0 hx534_1 hHeld ⊢
               refine pure_ (i := 1) (N := some 69) (v := ?_) (a' := ?_) #[false, true, false, false, false, false, false, false, false, false, false, false] rfl rfl (any_of HT_.out (by kernel_rfl)) (fun _ _ _ h => h) (Or.inl ⟨by rfl, ?_⟩) ?_ ?_
               rotate_left
               · intro w'
                 go_simp
                 with_reducible rfl
               rotate_left
               · simp only [Act.put, qa_, qz_, qs_, i64_w, i32_w]
                 rfl
               refine pure_ (i := 2) (N := some 70) (v := ?_) (a' := ?_) #[false, true, true, false, false, false, false, false, false, false, false, false] rfl rfl (any_of HT_.out (by kernel_rfl)) (fun _ _ _ h => h) (Or.inl ⟨by rfl, ?_⟩) ?_ ?_
               rotate_left
               · intro w'
                 go_simp
                 with_reducible rfl
               rotate_left
               · simp only [Act.put, qa_, qz_, qs_, i64_w, i32_w]
                 rfl
               refine pure_ (i := 3) (N := some 71) (v := ?_) (a' := ?_) #[false, true, true, true, false, false, false, false, false, false, false, false] rfl rfl (any_of HT_.out (by kernel_rfl)) (fun _ _ _ h => h) (Or.inl ⟨by rfl, ?_⟩) ?_ ?_
               rotate_left
               · intro w'
                 go_simp
                 with_reducible rfl
               rotate_left
               · simp only [Act.put, qa_, qz_, qs_, i64_w, i32_w]
                 rfl
               refine take_ (i := 0) (N := some 68) (v := ?_) (a' := ?_) #[true, true, true, true, false, false, false, false, false, false, false, false] rfl rfl (take_ofW HT_.out HW_.out (by kernel_rfl)) (fun _ _ _ h => h) (Or.inl ⟨by rfl, ?_⟩) hHeld ?_ ?_
               rotate_left
               · rintro w' ⟨s0, s1, s2, s3⟩
                 go_simp
                 with_reducible rfl
               rotate_left
               · simp only [Act.put, qa_, qz_, qs_, i64_w, i32_w]
                 rfl
               refine take_ (i := 4) (N := some 72) (v := ?_) (a' := ?_) #[true, true, true, true, true, false, false, false, false, false, false, false] rfl rfl (take_ofW HT_.out HW_.out (by kernel_rfl)) (fun _ _ _ h => h) (Or.inl ⟨by rfl, ?_⟩) hHeld ?_ ?_
               rotate_left
               · rintro w' ⟨s0, s1, s2, s3⟩
                 go_simp
                 with_reducible rfl
               rotate_left
               · simp only [Act.put, qa_, qz_, qs_, i64_w, i32_w]
                 rfl
               refine join_ (σ := Nat) 2 #[true, true, true, true, true, true, true, true, true, true, false, false] (fun s_ => [(73, .tuple #[.agg #[.int .i64 t535, .int .i64 t536], .int .i64 t537]), (14, .pointer (some ⟨s_, 0, none⟩)), (67, .tuple #[.agg #[.int .i64 t535, .int .i64 t536], .int .i64 t537]), (74, .agg #[.int .i64 t535, .int .i64 t536]), (75, .int .i64 t537)]) (fun s_ w' => (w'.cell? ⟨gb532, 0, none⟩ = some (.int .i64 x533000_30) ∧ w'.cell? ⟨gb532, 1, none⟩ = some (.int .i64 x533001_30) ∧ w'.cell? (ad534.add ((x12_2).toNat * 2)) = some (.int .i64 ((rd_T26 t523 x12_2).f0)) ∧ w'.cell? ⟨(ad534.add ((x12_2).toNat * 2)).block, (ad534.add ((x12_2).toNat * 2)).off + 1, none⟩ = some (.int .i64 ((rd_T26 t523 x12_2).f1))) ∧ (Kd.R (Kd.int .i64) 3 w' w.heap.size (fun _ => True) (.slice Ao15 t519.length co15) t519) ∧ (Kd.R k26 26 w' w.heap.size (fun k_ => k_ ≠ gb530 ∧ k_ ≠ gb532 ∧ k_ ≠ s_) (.slice (some ad534) t523.length co32) t523) ∧ (w'.heap[gb515]? = some (.cells #[.int .i64 a0_0, .int .i64 a0_1, .slice A0_2 l0_2.length c0_2] 24 (0, 0))) ∧ (w'.heap[gb522]? = some (.cells #[.int .i64 t517, .int .i64 t518, .slice Ao15 t519.length co15] 24 (0, 0))) ∧ (w'.heap[gb530]? = some (.cells #[.int .i64 t527, .int .i64 t528] 26 (0, 0))) ∧ (w'.heap[gb532]? = some (.cells #[.int .i64 x533000_30, .int .i64 x533001_30] 26 (0, 0))) ∧ (w'.heap[s_]? = some (.cells #[.int .i64 0, .int .i64 0] 26 (0, 0))) ∧ (w.heap.size ≤ s_) ∧ (w.heap.size ≤ s_) ∧ (gb515 ≠ s_) ∧ (s_ ≠ gb515) ∧ (gb522 ≠ s_) ∧ (s_ ≠ gb522) ∧ (gb530 ≠ s_) ∧ (s_ ≠ gb530) ∧ (gb532 ≠ s_) ∧ (s_ ≠ gb532) ∧ (Below w.heap.size w w')) ?_ ?_
               rotate_left
               · intro hCont
                 refine two_ (i := 5) (j := 9) (Ni := some 73) (Nj := some 14) #[true, true, true, true, true, true, false, false, false, false, false, false] #[true, true, true, true, true, false, false, false, false, true, false, false] rfl rfl rfl rfl (two_of HT_.out (by kernel_rfl)) (by decide) (by decide) (fun K hK => ?_) (fun K hK => ?_)
                 · skip
                   refine goes_ Try.func29 (by kernel_rfl) rfl #[.agg #[.int .i64 x533000_30, .int .i64 x533001_30], .agg #[.int .i64 ((rd_T26 t523 x12_2).f0), .int .i64 ((rd_T26 t523 x12_2).f1)]] (by rfl) rfl rfl (by (try simp only [List.map_toArray, List.map_cons, List.map_nil]); first | done | rfl | (simp only [List.length_drop, List.length_take]; rfl)) ?_
                   with_reducible refine (ratio_Sub.calls x533000_30 x533001_30 ((rd_T26 t523 x12_2).f0) ((rd_T26 t523 x12_2).f1) t535 t536 t537 _ A50.out).mono ?_
                   rintro e w54 ⟨rfl, hb⟩
                   have HS2_ := (hb.cell (World.block_lt_of_cell? _ _ (hHeld.2.2.1))).trans (hHeld.2.2.1)
                   have HS3_ := (hb.cell (World.block_lt_of_cell? _ _ (hHeld.2.2.2))).trans (hHeld.2.2.2)
                   refine ⟨_, rfl, ?_⟩
                   have n0_ := Aside0.mk (Kd.R_below (qR HO_7.out) hb)
                   have n1_ := Aside0.mk (Kd.R_below (qR HO_523002.out) hb)
                   have n2_ := Aside0.mk (blk_below (qB BK515.out) hb)
                   have n3_ := Aside0.mk (blk_below (qB BK522.out) hb)
                   have n4_ := Aside0.mk (blk_below (qB BK530.out) hb)
                   have n5_ := Aside0.mk (blk_below (qB BK532.out) hb)
                   have n6_ := Aside0.mk (below_step (by repeat (first | (with_reducible first | exact HB.out | apply below_alloc | apply pw_below_drewN | apply below_drew1 | refine below_set ?_ (Aside0.out (by assumption))) | exact HB.out)) hb)
                   clear HO_7
                   clear HO_523002
                   clear BK515
                   clear BK522
                   clear BK530
                   clear BK532
                   clear HB
                   have HO_7 := n0_
                   have HO_523002 := n1_
                   have BK515 := n2_
                   have BK522 := n3_
                   have BK530 := n4_
                   have BK532 := n5_
                   have HB := n6_
                   clear n0_ n1_ n2_ n3_ n4_ n5_ n6_
                   (try clear hb)
                   (try clear hb2)
                   (try clear hk)
                   (try clear hi)
                   refine hK.out _ _ ⟨(blk_cell BK532.out 0).trans rfl, (blk_cell BK532.out 1).trans rfl, HS2_, HS3_⟩ (fun hHeld => ?_)
                   clear hK K
                   refine norm_ (a' := ?_) ?_ ?_
                   rotate_left
                   · show Act.put _ (some 73) _ = _
                     simp only [Act.put, qa_, qz_, qs_, i64_w, i32_w]
                     rfl
                   refine pure_ (i := 6) (N := some 67) (v := ?_) (a' := ?_) #[true, true, true, true, true, true, true, false, false, false, false, false] rfl rfl (any_of HT_.out (by kernel_rfl)) (fun _ _ _ h => h) (Or.inl ⟨by rfl, ?_⟩) ?_ ?_
                   rotate_left
                   · intro w'
                     go_simp
                     with_reducible rfl
                   rotate_left
                   · simp only [Act.put, qa_, qz_, qs_, i64_w, i32_w]
                     rfl
                   refine pure_ (i := 7) (N := some 74) (v := ?_) (a' := ?_) #[true, true, true, true, true, true, true, true, false, false, false, false] rfl rfl (any_of HT_.out (by kernel_rfl)) (fun _ _ _ h => h) (Or.inl ⟨by rfl, ?_⟩) ?_ ?_
                   rotate_left
                   · intro w'
                     go_simp
                     with_reducible rfl
                   rotate_left
                   · simp only [Act.put, qa_, qz_, qs_, i64_w, i32_w]
                     rfl
                   refine pure_ (i := 8) (N := some 75) (v := ?_) (a' := ?_) #[true, true, true, true, true, true, true, true, true, false, false, false] rfl rfl (any_of HT_.out (by kernel_rfl)) (fun _ _ _ h => h) (Or.inl ⟨by rfl, ?_⟩) ?_ ?_
                   rotate_left
                   · intro w'
                     go_simp
                     with_reducible rfl
                   rotate_left
                   · simp only [Act.put, qa_, qz_, qs_, i64_w, i32_w]
                     rfl
                   refine one_ (i := 9) (N := some 14) #[true, true, true, true, true, true, true, true, true, true, false, false] rfl rfl (one_of HT_.out (by kernel_rfl)) (by decide) (fun K hK => ?_)
                   refine box_step ?hg (N := 14) ?hd (cs := #[.int .i64 0, .int .i64 0]) (t := 26) ?hr ?_; (case hd => rfl); (case hg => rfl); (case hr => first | (go_simp; done) | (go_simp; rfl))
                   intro gb538 hg w55 hbox hb
                   have HS2_ := (hb.cell (World.block_lt_of_cell? _ _ (hHeld.2.2.1))).trans (hHeld.2.2.1)
                   have HS3_ := (hb.cell (World.block_lt_of_cell? _ _ (hHeld.2.2.2))).trans (hHeld.2.2.2)
                   have n0_ := Aside0.mk (Kd.R_below (Kd.R_elderB (qR HO_7.out) gb538 (Nat.le_of_eq hg.symm)) hb)
                   have n1_ := Aside0.mk (Kd.R_below (qR HO_523002.out) hb)
                   have n2_ := Aside0.mk (blk_below (qB BK515.out) hb)
                   have n3_ := Aside0.mk (blk_below (qB BK522.out) hb)
                   have n4_ := Aside0.mk (blk_below (qB BK530.out) hb)
                   have n5_ := Aside0.mk (blk_below (qB BK532.out) hb)
                   have n6_ := Aside0.mk (below_step (by repeat (first | (with_reducible first | exact HB.out | apply below_alloc | apply pw_below_drewN | apply below_drew1 | refine below_set ?_ (Aside0.out (by assumption))) | exact HB.out)) hb)
                   have n7_ := Aside0.mk (hbox)
                   have n8_ := Aside0.mk ((by rw [hg]; exact (below_size (by repeat (first | (with_reducible first | exact HB.out | apply below_alloc | apply pw_below_drewN | apply below_drew1 | refine below_set ?_ (Aside0.out (by assumption))) | exact HB.out))) : w.heap.size ≤ gb538))
                   have n9_ := Aside0.mk ((by rw [hg]; exact (below_size (by repeat (first | (with_reducible first | exact HB.out | apply below_alloc | apply pw_below_drewN | apply below_drew1 | refine below_set ?_ (Aside0.out (by assumption))) | exact HB.out))) : w.heap.size ≤ gb538))
                   have n10_ := Aside0.mk ((by rw [hg]; exact Nat.ne_of_lt (blk_lt (qB BK515.out)) : gb515 ≠ gb538))
                   have n11_ := Aside0.mk ((by rw [hg]; exact Nat.ne_of_gt (blk_lt (qB BK515.out)) : gb538 ≠ gb515))
                   have n12_ := Aside0.mk ((by rw [hg]; exact Nat.ne_of_lt (blk_lt (qB BK522.out)) : gb522 ≠ gb538))
                   have n13_ := Aside0.mk ((by rw [hg]; exact Nat.ne_of_gt (blk_lt (qB BK522.out)) : gb538 ≠ gb522))
                   have n14_ := Aside0.mk ((by rw [hg]; exact Nat.ne_of_lt (blk_lt (qB BK530.out)) : gb530 ≠ gb538))
                   have n15_ := Aside0.mk ((by rw [hg]; exact Nat.ne_of_gt (blk_lt (qB BK530.out)) : gb538 ≠ gb530))
                   have n16_ := Aside0.mk ((by rw [hg]; exact Nat.ne_of_lt (blk_lt (qB BK532.out)) : gb532 ≠ gb538))
                   have n17_ := Aside0.mk ((by rw [hg]; exact Nat.ne_of_gt (blk_lt (qB BK532.out)) : gb538 ≠ gb532))
                   clear HO_7
                   clear HO_523002
                   clear BK515
                   clear BK522
                   clear BK530
                   clear BK532
                   clear HB
                   have HO_7 := n0_
                   have HO_523002 := n1_
                   have BK515 := n2_
                   have BK522 := n3_
                   have BK530 := n4_
                   have BK532 := n5_
                   have HB := n6_
                   have BK538 := n7_
                   have GW538 := n8_
                   have GE538 := n9_
                   have NB515_538 := n10_
                   have NB538_515 := n11_
                   have NB522_538 := n12_
                   have NB538_522 := n13_
                   have NB530_538 := n14_
                   have NB538_530 := n15_
                   have NB532_538 := n16_
                   have NB538_532 := n17_
                   clear n0_ n1_ n2_ n3_ n4_ n5_ n6_ n7_ n8_ n9_ n10_ n11_ n12_ n13_ n14_ n15_ n16_ n17_
                   clear hb hbox hg
                   refine hK.out _ _ ⟨(blk_cell BK532.out 0).trans rfl, (blk_cell BK532.out 1).trans rfl, HS2_, HS3_⟩ (fun hHeld => ?_)
                   clear hK K
                   refine norm_ (a' := ?_) ?_ ?_
                   rotate_left
                   · show Act.put _ (some 14) _ = _
                     simp only [Act.put, qa_, qz_, qs_, i64_w, i32_w]
                     rfl
                   exact norm_ (by simp only [putAll, Act.put, qa_, qz_, qs_]) (hCont (gb538) _ ⟨hHeld, (qR HO_523002.out), (qR (Kd.R_mono HO_7.out (fun _ hk => ⟨hk.1.1, ⟨hk.1.2, hk.2⟩⟩))), (qB BK515.out), (qB BK522.out), (qB BK530.out), (qB BK532.out), (qB BK538.out), GW538.out, GE538.out, NB515_538.out, NB538_515.out, NB522_538.out, NB538_522.out, NB530_538.out, NB538_530.out, NB532_538.out, NB538_532.out, (by repeat (first | (with_reducible first | exact HB.out | apply below_alloc | apply pw_below_drewN | apply below_drew1 | refine below_set ?_ (Aside0.out (by assumption))) | exact HB.out))⟩)
                 · skip
                   refine box_step ?hg (N := 14) ?hd (cs := #[.int .i64 0, .int .i64 0]) (t := 26) ?hr ?_; (case hd => rfl); (case hg => rfl); (case hr => first | (go_simp; done) | (go_simp; rfl))
                   intro gb538 hg w54 hbox hb
                   have HS2_ := (hb.cell (World.block_lt_of_cell? _ _ (hHeld.2.2.1))).trans (hHeld.2.2.1)
                   have HS3_ := (hb.cell (World.block_lt_of_cell? _ _ (hHeld.2.2.2))).trans (hHeld.2.2.2)
                   have n0_ := Aside0.mk (Kd.R_below (Kd.R_elderB (qR HO_7.out) gb538 (Nat.le_of_eq hg.symm)) hb)
                   have n1_ := Aside0.mk (Kd.R_below (qR HO_523002.out) hb)
                   have n2_ := Aside0.mk (blk_below (qB BK515.out) hb)
                   have n3_ := Aside0.mk (blk_below (qB BK522.out) hb)
                   have n4_ := Aside0.mk (blk_below (qB BK530.out) hb)
                   have n5_ := Aside0.mk (blk_below (qB BK532.out) hb)
                   have n6_ := Aside0.mk (below_step (by repeat (first | (with_reducible first | exact HB.out | apply below_alloc | apply pw_below_drewN | apply below_drew1 | refine below_set ?_ (Aside0.out (by assumption))) | exact HB.out)) hb)
                   have n7_ := Aside0.mk (hbox)
                   have n8_ := Aside0.mk ((by rw [hg]; exact (below_size (by repeat (first | (with_reducible first | exact HB.out | apply below_alloc | apply pw_below_drewN | apply below_drew1 | refine below_set ?_ (Aside0.out (by assumption))) | exact HB.out))) : w.heap.size ≤ gb538))
                   have n9_ := Aside0.mk ((by rw [hg]; exact (below_size (by repeat (first | (with_reducible first | exact HB.out | apply below_alloc | apply pw_below_drewN | apply below_drew1 | refine below_set ?_ (Aside0.out (by assumption))) | exact HB.out))) : w.heap.size ≤ gb538))
                   have n10_ := Aside0.mk ((by rw [hg]; exact Nat.ne_of_lt (blk_lt (qB BK515.out)) : gb515 ≠ gb538))
                   have n11_ := Aside0.mk ((by rw [hg]; exact Nat.ne_of_gt (blk_lt (qB BK515.out)) : gb538 ≠ gb515))
                   have n12_ := Aside0.mk ((by rw [hg]; exact Nat.ne_of_lt (blk_lt (qB BK522.out)) : gb522 ≠ gb538))
                   have n13_ := Aside0.mk ((by rw [hg]; exact Nat.ne_of_gt (blk_lt (qB BK522.out)) : gb538 ≠ gb522))
                   have n14_ := Aside0.mk ((by rw [hg]; exact Nat.ne_of_lt (blk_lt (qB BK530.out)) : gb530 ≠ gb538))
                   have n15_ := Aside0.mk ((by rw [hg]; exact Nat.ne_of_gt (blk_lt (qB BK530.out)) : gb538 ≠ gb530))
                   have n16_ := Aside0.mk ((by rw [hg]; exact Nat.ne_of_lt (blk_lt (qB BK532.out)) : gb532 ≠ gb538))
                   have n17_ := Aside0.mk ((by rw [hg]; exact Nat.ne_of_gt (blk_lt (qB BK532.out)) : gb538 ≠ gb532))
                   clear HO_7
                   clear HO_523002
                   clear BK515
                   clear BK522
                   clear BK530
                   clear BK532
                   clear HB
                   have HO_7 := n0_
                   have HO_523002 := n1_
                   have BK515 := n2_
                   have BK522 := n3_
                   have BK530 := n4_
                   have BK532 := n5_
                   have HB := n6_
                   have BK538 := n7_
                   have GW538 := n8_
                   have GE538 := n9_
                   have NB515_538 := n10_
                   have NB538_515 := n11_
                   have NB522_538 := n12_
                   have NB538_522 := n13_
                   have NB530_538 := n14_
                   have NB538_530 := n15_
                   have NB532_538 := n16_
                   have NB538_532 := n17_
                   clear n0_ n1_ n2_ n3_ n4_ n5_ n6_ n7_ n8_ n9_ n10_ n11_ n12_ n13_ n14_ n15_ n16_ n17_
                   clear hb hbox hg
                   refine hK.out _ _ ⟨(blk_cell BK532.out 0).trans rfl, (blk_cell BK532.out 1).trans rfl, HS2_, HS3_⟩ (fun hHeld => ?_)
                   clear hK K
                   refine norm_ (a' := ?_) ?_ ?_
                   rotate_left
                   · show Act.put _ (some 14) _ = _
                     simp only [Act.put, qa_, qz_, qs_, i64_w, i32_w]
                     rfl
                   refine one_ (i := 5) (N := some 73) #[true, true, true, true, true, true, false, false, false, true, false, false] rfl rfl (one_of HT_.out (by kernel_rfl)) (by decide) (fun K hK => ?_)
                   refine goes_ Try.func29 (by kernel_rfl) rfl #[.agg #[.int .i64 x533000_30, .int .i64 x533001_30], .agg #[.int .i64 ((rd_T26 t523 x12_2).f0), .int .i64 ((rd_T26 t523 x12_2).f1)]] (by rfl) rfl rfl (by (try simp only [List.map_toArray, List.map_cons, List.map_nil]); first | done | rfl | (simp only [List.length_drop, List.length_take]; rfl)) ?_
                   with_reducible refine (ratio_Sub.calls x533000_30 x533001_30 ((rd_T26 t523 x12_2).f0) ((rd_T26 t523 x12_2).f1) t535 t536 t537 _ A50.out).mono ?_
                   rintro e w55 ⟨rfl, hb⟩
                   have HS2_ := (hb.cell (World.block_lt_of_cell? _ _ (hHeld.2.2.1))).trans (hHeld.2.2.1)
                   have HS3_ := (hb.cell (World.block_lt_of_cell? _ _ (hHeld.2.2.2))).trans (hHeld.2.2.2)
                   refine ⟨_, rfl, ?_⟩
                   have n0_ := Aside0.mk (Kd.R_below (qR HO_7.out) hb)
                   have n1_ := Aside0.mk (Kd.R_below (qR HO_523002.out) hb)
                   have n2_ := Aside0.mk (blk_below (qB BK515.out) hb)
                   have n3_ := Aside0.mk (blk_below (qB BK522.out) hb)
                   have n4_ := Aside0.mk (blk_below (qB BK530.out) hb)
                   have n5_ := Aside0.mk (blk_below (qB BK532.out) hb)
                   have n6_ := Aside0.mk (blk_below (qB BK538.out) hb)
                   have n7_ := Aside0.mk (below_step (by repeat (first | (with_reducible first | exact HB.out | apply below_alloc | apply pw_below_drewN | apply below_drew1 | refine below_set ?_ (Aside0.out (by assumption))) | exact HB.out)) hb)
                   clear HO_7
                   clear HO_523002
                   clear BK515
                   clear BK522
                   clear BK530
                   clear BK532
                   clear BK538
                   clear HB
                   have HO_7 := n0_
                   have HO_523002 := n1_
                   have BK515 := n2_
                   have BK522 := n3_
                   have BK530 := n4_
                   have BK532 := n5_
                   have BK538 := n6_
                   have HB := n7_
                   clear n0_ n1_ n2_ n3_ n4_ n5_ n6_ n7_
                   (try clear hb)
                   (try clear hb2)
                   (try clear hk)
                   (try clear hi)
                   refine hK.out _ _ ⟨(blk_cell BK532.out 0).trans rfl, (blk_cell BK532.out 1).trans rfl, HS2_, HS3_⟩ (fun hHeld => ?_)
                   clear hK K
                   refine norm_ (a' := ?_) ?_ ?_
                   rotate_left
                   · show Act.put _ (some 73) _ = _
                     simp only [Act.put, qa_, qz_, qs_, i64_w, i32_w]
                     rfl
                   refine pure_ (i := 6) (N := some 67) (v := ?_) (a' := ?_) #[true, true, true, true, true, true, true, false, false, true, false, false] rfl rfl (any_of HT_.out (by kernel_rfl)) (fun _ _ _ h => h) (Or.inl ⟨by rfl, ?_⟩) ?_ ?_
                   rotate_left
                   · intro w'
                     go_simp
                     with_reducible rfl
                   rotate_left
                   · simp only [Act.put, qa_, qz_, qs_, i64_w, i32_w]
                     rfl
                   refine pure_ (i := 7) (N := some 74) (v := ?_) (a' := ?_) #[true, true, true, true, true, true, true, true, false, true, false, false] rfl rfl (any_of HT_.out (by kernel_rfl)) (fun _ _ _ h => h) (Or.inl ⟨by rfl, ?_⟩) ?_ ?_
                   rotate_left
                   · intro w'
                     go_simp
                     with_reducible rfl
                   rotate_left
                   · simp only [Act.put, qa_, qz_, qs_, i64_w, i32_w]
                     rfl
                   refine pure_ (i := 8) (N := some 75) (v := ?_) (a' := ?_) #[true, true, true, true, true, true, true, true, true, true, false, false] rfl rfl (any_of HT_.out (by kernel_rfl)) (fun _ _ _ h => h) (Or.inl ⟨by rfl, ?_⟩) ?_ ?_
                   rotate_left
                   · intro w'
                     go_simp
                     with_reducible rfl
                   rotate_left
                   · simp only [Act.put, qa_, qz_, qs_, i64_w, i32_w]
                     rfl
                   exact norm_ (by simp only [putAll, Act.put, qa_, qz_, qs_]) (hCont (gb538) _ ⟨hHeld, (qR HO_523002.out), (qR (Kd.R_mono HO_7.out (fun _ hk => ⟨hk.1.1, ⟨hk.1.2, hk.2⟩⟩))), (qB BK515.out), (qB BK522.out), (qB BK530.out), (qB BK532.out), (qB BK538.out), GW538.out, GE538.out, NB515_538.out, NB538_515.out, NB522_538.out, NB538_522.out, NB530_538.out, NB538_530.out, NB532_538.out, NB538_532.out, (by repeat (first | (with_reducible first | exact HB.out | apply below_alloc | apply pw_below_drewN | apply below_drew1 | refine below_set ?_ (Aside0.out (by assumption))) | exact HB.out))⟩)
               rintro gb538 w56 ⟨hS_, h0_, h1_, h2_, h3_, h4_, h5_, h6_, h7_, h8_, h9_, h10_, h11_, h12_, h13_, h14_, h15_, h16_, h17_⟩
               have n0_ : Aside0 (Kd.R (Kd.int .i64) 3 w56 w.heap.size (fun _ => True) (.slice Ao15 t519.length co15) t519) := ⟨h0_⟩
               have n1_ : Aside0 (Kd.R k26 26 w56 w.heap.size (fun k_ => k_ ≠ gb530 ∧ k_ ≠ gb532 ∧ k_ ≠ gb538) (.slice (some ad534) t523.length co32) t523) := ⟨h1_⟩
               have n2_ : Aside0 (w56.heap[gb515]? = some (.cells #[.int .i64 a0_0, .int .i64 a0_1, .slice A0_2 l0_2.length c0_2] 24 (0, 0))) := ⟨h2_⟩
               have n3_ : Aside0 (w56.heap[gb522]? = some (.cells #[.int .i64 t517, .int .i64 t518, .slice Ao15 t519.length co15] 24 (0, 0))) := ⟨h3_⟩
               have n4_ : Aside0 (w56.heap[gb530]? = some (.cells #[.int .i64 t527, .int .i64 t528] 26 (0, 0))) := ⟨h4_⟩
               have n5_ : Aside0 (w56.heap[gb532]? = some (.cells #[.int .i64 x533000_30, .int .i64 x533001_30] 26 (0, 0))) := ⟨h5_⟩
               have n6_ : Aside0 (w56.heap[gb538]? = some (.cells #[.int .i64 0, .int .i64 0] 26 (0, 0))) := ⟨h6_⟩
               have n7_ : Aside0 (w.heap.size ≤ gb538) := ⟨h7_⟩
               have n8_ : Aside0 (w.heap.size ≤ gb538) := ⟨h8_⟩
               have n9_ : Aside0 (gb515 ≠ gb538) := ⟨h9_⟩
               have n10_ : Aside0 (gb538 ≠ gb515) := ⟨h10_⟩
               have n11_ : Aside0 (gb522 ≠ gb538) := ⟨h11_⟩
               have n12_ : Aside0 (gb538 ≠ gb522) := ⟨h12_⟩
               have n13_ : Aside0 (gb530 ≠ gb538) := ⟨h13_⟩
               have n14_ : Aside0 (gb538 ≠ gb530) := ⟨h14_⟩
               have n15_ : Aside0 (gb532 ≠ gb538) := ⟨h15_⟩
               have n16_ : Aside0 (gb538 ≠ gb532) := ⟨h16_⟩
               have n17_ : Aside0 (Below w.heap.size w w56) := ⟨h17_⟩
               clear HO_7
               clear HO_523002
               clear BK515
               clear BK522
               clear BK530
               clear BK532
               clear HB
               clear h0_ h1_ h2_ h3_ h4_ h5_ h6_ h7_ h8_ h9_ h10_ h11_ h12_ h13_ h14_ h15_ h16_ h17_
               have HO_523002 := n0_
               have HO_7 := n1_
               have BK515 := n2_
               have BK522 := n3_
               have BK530 := n4_
               have BK532 := n5_
               have BK538 := n6_
               have GW538 := n7_
               have GE538 := n8_
               have NB515_538 := n9_
               have NB538_515 := n10_
               have NB522_538 := n11_
               have NB538_522 := n12_
               have NB530_538 := n13_
               have NB538_530 := n14_
               have NB532_538 := n15_
               have NB538_532 := n16_
               have HB := n17_
               clear n0_ n1_ n2_ n3_ n4_ n5_ n6_ n7_ n8_ n9_ n10_ n11_ n12_ n13_ n14_ n15_ n16_ n17_
               have hHeld : w56.cell? ⟨gb532, 0, none⟩ = some (.int .i64 x533000_30) ∧ w56.cell? ⟨gb532, 1, none⟩ = some (.int .i64 x533001_30) ∧ w56.cell? (ad534.add ((x12_2).toNat * 2)) = some (.int .i64 ((rd_T26 t523 x12_2).f0)) ∧ w56.cell? ⟨(ad534.add ((x12_2).toNat * 2)).block, (ad534.add ((x12_2).toNat * 2)).off + 1, none⟩ = some (.int .i64 ((rd_T26 t523 x12_2).f1)) := hS_
               refine norm_ (a' := ?_) ?_ ?_
               rotate_left
               · simp only [putAll, Act.put, qa_, qz_, qs_]
                 rfl
               refine one_ (i := 10) (N := none) #[true, true, true, true, true, true, true, true, true, true, true, false] rfl rfl (one_of HT_.out (by kernel_rfl)) (by decide) (fun K hK => ?_)
               have hs57 : w56.cell? ⟨gb538, 0, none⟩ = some (.int .i64 0) := (blk_cell BK538.out 0).trans rfl
               have hfs57 := blk_frozen BK538.out 0
               have hns57_0 := NB515_538.out
               have hns57_1 := NB522_538.out
               have hns57_2 := NB530_538.out
               have hns57_3 := NB532_538.out
               have hms57_0 := NB538_515.out
               have hms57_1 := NB538_522.out
               have hms57_2 := NB538_530.out
               have hms57_3 := NB538_532.out
               have hs58 : w56.cell? ⟨gb538, 1, none⟩ = some (.int .i64 0) := (blk_cell BK538.out 1).trans rfl
               have hfs58 := blk_frozen BK538.out 1
               have hns58_0 := NB515_538.out
               have hns58_1 := NB522_538.out
               have hns58_2 := NB530_538.out
               have hns58_3 := NB532_538.out
               have hms58_0 := NB538_515.out
               have hms58_1 := NB538_522.out
               have hms58_2 := NB538_530.out
               have hms58_3 := NB538_532.out
               refine skip_ (w1 := ?_) (by rfl) rfl ?_ ?_
               rotate_left
               · go_simp
                 rfl
               refine hK.out _ _ ⟨((cell_far (p := ⟨gb538, _, none⟩) NB532_538.out _).trans (((cell_far (p := ⟨gb538, _, none⟩) NB532_538.out _).trans (hHeld.1)))), ((cell_far (p := ⟨gb538, _, none⟩) NB532_538.out _).trans (((cell_far (p := ⟨gb538, _, none⟩) NB532_538.out _).trans (hHeld.2.1)))), ((cell_far (p := ⟨gb538, _, none⟩) (by first | exact Kd.own_blk (Kd.R_away HO_7.out (fun _ hk => hk.2.2)) | (rw [add_block]; exact Kd.own_blk (Kd.R_away HO_7.out (fun _ hk => hk.2.2))) | (show (Addr.add _ _).block ≠ _; rw [add_block]; exact Kd.own_blk (Kd.R_away HO_7.out (fun _ hk => hk.2.2))) | (dsimp only; exact Kd.own_blk (Kd.R_away HO_7.out (fun _ hk => hk.2.2)))) _).trans (((cell_far (p := ⟨gb538, _, none⟩) (by first | exact Kd.own_blk (Kd.R_away HO_7.out (fun _ hk => hk.2.2)) | (rw [add_block]; exact Kd.own_blk (Kd.R_away HO_7.out (fun _ hk => hk.2.2))) | (show (Addr.add _ _).block ≠ _; rw [add_block]; exact Kd.own_blk (Kd.R_away HO_7.out (fun _ hk => hk.2.2))) | (dsimp only; exact Kd.own_blk (Kd.R_away HO_7.out (fun _ hk => hk.2.2)))) _).trans (hHeld.2.2.1)))), ((cell_far (p := ⟨gb538, _, none⟩) (by first | exact Kd.own_blk (Kd.R_away HO_7.out (fun _ hk => hk.2.2)) | (rw [add_block]; exact Kd.own_blk (Kd.R_away HO_7.out (fun _ hk => hk.2.2))) | (show (Addr.add _ _).block ≠ _; rw [add_block]; exact Kd.own_blk (Kd.R_away HO_7.out (fun _ hk => hk.2.2))) | (dsimp only; exact Kd.own_blk (Kd.R_away HO_7.out (fun _ hk => hk.2.2)))) _).trans (((cell_far (p := ⟨gb538, _, none⟩) (by first | exact Kd.own_blk (Kd.R_away HO_7.out (fun _ hk => hk.2.2)) | (rw [add_block]; exact Kd.own_blk (Kd.R_away HO_7.out (fun _ hk => hk.2.2))) | (show (Addr.add _ _).block ≠ _; rw [add_block]; exact Kd.own_blk (Kd.R_away HO_7.out (fun _ hk => hk.2.2))) | (dsimp only; exact Kd.own_blk (Kd.R_away HO_7.out (fun _ hk => hk.2.2)))) _).trans (hHeld.2.2.2))))⟩ (fun hHeld => ?_)
               clear hK K
               refine pure_ (i := 11) (N := some 15) (v := ?_) (a' := ?_) #[true, true, true, true, true, true, true, true, true, true, true, true] rfl rfl (any_of HT_.out (by kernel_rfl)) (fun _ _ _ h => h) (Or.inl ⟨by rfl, ?_⟩) ?_ ?_
               rotate_left
               · intro w'
                 go_simp
                 with_reducible rfl
               rotate_left
               · simp only [Act.put, qa_, qz_, qs_, i64_w, i32_w]
                 rfl
               refine done_ (done_of HT_.out (by kernel_rfl)) ?_
               have hnb59 := NB538_515.out
               have hnc59 := NB515_538.out
               have hnb60 := NB538_522.out
               have hnc60 := NB522_538.out
               have hnb61 := NB538_530.out
               have hnc61 := NB530_538.out
               have hnb62 := NB538_532.out
               have hnc62 := NB532_538.out
               have hcz63_0 : w56.cell? ⟨gb538, 0, none⟩ = some (.int .i64 0) := (blk_cell BK538.out 0).trans rfl
               have hcz63_1 : w56.cell? ⟨gb538, 1, none⟩ = some (.int .i64 0) := (blk_cell BK538.out 1).trans rfl
               have hfz63_0 := blk_frozen BK538.out 0
               have hfz63_1 := blk_frozen BK538.out 1
               have hnb64 := NB522_515.out
               have hnc64 := NB515_522.out
               have hnb65 := NB522_530.out
               have hnc65 := NB530_522.out
               have hnb66 := NB522_532.out
               have hnc66 := NB532_522.out
               have hcz67_0 : w56.cell? ⟨gb522, 0, none⟩ = some (.int .i64 t517) := (blk_cell BK522.out 0).trans rfl
               have hcz67_1 : w56.cell? ⟨gb522, 1, none⟩ = some (.int .i64 t518) := (blk_cell BK522.out 1).trans rfl
               have hcz67_2 : w56.cell? ⟨gb522, 2, none⟩ = some (.slice Ao15 t519.length co15) := (blk_cell BK522.out 2).trans rfl
               have hfz67_0 := blk_frozen BK522.out 0
               have hfz67_1 := blk_frozen BK522.out 1
               have hfz67_2 := blk_frozen BK522.out 2
               go_upto_region 16 with (first | ((with_reducible refine gate_callee (f := 32) rfl ?_); refine goesL_ (some 81) rfl rfl Try.func32 (by kernel_rfl) rfl #[.agg #[.int .i64 t535, .int .i64 t536], .agg #[.int .i64 t518, .int .i64 1]] rfl (by (try simp only [List.map_toArray, List.map_cons, List.map_nil]); first | done | rfl | (simp only [List.length_drop, List.length_take]; rfl)) ?_; (with_reducible refine (ratio_Mul.calls t535 t536 t518 1 t539 t540 t541 _ A51.out).mono ?_); rintro e w68 ⟨rfl, hb⟩; refine ⟨_, rfl, ?_⟩; have n0_ := Aside0.mk (Kd.R_below (qR ((Kd.R_mono (Kd.R_far (p := ⟨gb538, 1, none⟩) (Kd.R_far (p := ⟨gb538, 0, none⟩) (Kd.R_mono HO_7.out (fun k_ hk => (⟨hk, hk.2.2⟩ : _ ∧ k_ ≠ gb538))) (fun _ hk => hk.2) (.int .i64 t535)) (fun _ hk => hk.2) (.int .i64 t536)) (fun _ h_ => h_.1)))) hb); have n1_ := Aside0.mk (Kd.R_below (qR ((Kd.R_mono (Kd.R_far (p := ⟨gb538, 1, none⟩) (Kd.R_far (p := ⟨gb538, 0, none⟩) (Kd.R_types HO_523002.out BK538.out (by decide)) (fun _ hk => hk.2) (.int .i64 t535)) (fun _ hk => hk.2) (.int .i64 t536)) (fun _ h_ => h_.1)))) hb); have n2_ := Aside0.mk (blk_below (g := gb515) (o := .cells #[.int .i64 a0_0, .int .i64 a0_1, .slice A0_2 l0_2.length c0_2] 24 (0, 0)) (by (with_reducible repeat (first | refine blk_drewN ?_ _ | refine blk_drew ?_ | refine blk_alloc ?_ _)); refine blk_far ?_ NB515_538.out _; (with_reducible repeat (first | refine blk_drewN ?_ _ | refine blk_drew ?_ | refine blk_alloc ?_ _)); refine blk_far ?_ NB515_538.out _; (with_reducible repeat (first | refine blk_drewN ?_ _ | refine blk_drew ?_ | refine blk_alloc ?_ _)); exact BK515.out) hb); have n3_ := Aside0.mk (blk_below (g := gb522) (o := .cells #[.int .i64 t517, .int .i64 t518, .slice Ao15 t519.length co15] 24 (0, 0)) (by (with_reducible repeat (first | refine blk_drewN ?_ _ | refine blk_drew ?_ | refine blk_alloc ?_ _)); refine blk_far ?_ NB522_538.out _; (with_reducible repeat (first | refine blk_drewN ?_ _ | refine blk_drew ?_ | refine blk_alloc ?_ _)); refine blk_far ?_ NB522_538.out _; (with_reducible repeat (first | refine blk_drewN ?_ _ | refine blk_drew ?_ | refine blk_alloc ?_ _)); exact BK522.out) hb); have n4_ := Aside0.mk (blk_below (g := gb530) (o := .cells #[.int .i64 t527, .int .i64 t528] 26 (0, 0)) (by (with_reducible repeat (first | refine blk_drewN ?_ _ | refine blk_drew ?_ | refine blk_alloc ?_ _)); refine blk_far ?_ NB530_538.out _; (with_reducible repeat (first | refine blk_drewN ?_ _ | refine blk_drew ?_ | refine blk_alloc ?_ _)); refine blk_far ?_ NB530_538.out _; (with_reducible repeat (first | refine blk_drewN ?_ _ | refine blk_drew ?_ | refine blk_alloc ?_ _)); exact BK530.out) hb); have n5_ := Aside0.mk (blk_below (g := gb532) (o := .cells #[.int .i64 x533000_30, .int .i64 x533001_30] 26 (0, 0)) (by (with_reducible repeat (first | refine blk_drewN ?_ _ | refine blk_drew ?_ | refine blk_alloc ?_ _)); refine blk_far ?_ NB532_538.out _; (with_reducible repeat (first | refine blk_drewN ?_ _ | refine blk_drew ?_ | refine blk_alloc ?_ _)); refine blk_far ?_ NB532_538.out _; (with_reducible repeat (first | refine blk_drewN ?_ _ | refine blk_drew ?_ | refine blk_alloc ?_ _)); exact BK532.out) hb); have n6_ := Aside0.mk (blk_below (g := gb538) (o := .cells #[.int .i64 t535, .int .i64 t536] 26 (0, 0)) (by (with_reducible repeat (first | refine blk_drewN ?_ _ | refine blk_drew ?_ | refine blk_alloc ?_ _)); refine blk_put (cs := #[.int .i64 t535, .int .i64 0]) ?_ 1 _ rfl; (with_reducible repeat (first | refine blk_drewN ?_ _ | refine blk_drew ?_ | refine blk_alloc ?_ _)); refine blk_put (cs := #[.int .i64 0, .int .i64 0]) ?_ 0 _ rfl; (with_reducible repeat (first | refine blk_drewN ?_ _ | refine blk_drew ?_ | refine blk_alloc ?_ _)); exact BK538.out) hb); have n7_ := Aside0.mk (below_step (by repeat (first | (with_reducible first | exact HB.out | apply below_alloc | apply pw_below_drewN | apply below_drew1 | refine below_set ?_ (Aside0.out (by assumption))) | exact HB.out)) hb); clear HO_7; clear HO_523002; clear BK515; clear BK522; clear BK530; clear BK532; clear BK538; clear HB; have HO_7 := n0_; have HO_523002 := n1_; have BK515 := n2_; have BK522 := n3_; have BK530 := n4_; have BK532 := n5_; have BK538 := n6_; have HB := n7_; clear n0_ n1_ n2_ n3_ n4_ n5_ n6_ n7_; (try clear hb); (try clear hb2); (try clear hk); (try clear hi)) | ((with_reducible refine gate_dst (N := 16) rfl ?_); (try (refine gate_guard (by rfl) ?_; dsimp only)); refine box_event ?hg (N := 16) ?hd (cs := #[.int .i64 0, .int .i64 0]) (t := 26) ?hr ?_; (case hd => rfl); (case hg => rfl); (case hr => first | (go_simp; done) | (go_simp; rfl)); intro gb542 hg w69 hbox hb; have n0_ := Aside0.mk (Kd.R_below (Kd.R_elderB (qR HO_7.out) gb542 (Nat.le_of_eq hg.symm)) hb); have n1_ := Aside0.mk (Kd.R_below (qR HO_523002.out) hb); have n2_ := Aside0.mk (blk_below (qB BK515.out) hb); have n3_ := Aside0.mk (blk_below (qB BK522.out) hb); have n4_ := Aside0.mk (blk_below (qB BK530.out) hb); have n5_ := Aside0.mk (blk_below (qB BK532.out) hb); have n6_ := Aside0.mk (blk_below (qB BK538.out) hb); have n7_ := Aside0.mk (below_step (by repeat (first | (with_reducible first | exact HB.out | apply below_alloc | apply pw_below_drewN | apply below_drew1 | refine below_set ?_ (Aside0.out (by assumption))) | exact HB.out)) hb); have n8_ := Aside0.mk (hbox); have n9_ := Aside0.mk ((by rw [hg]; exact (below_size (by repeat (first | (with_reducible first | exact HB.out | apply below_alloc | apply pw_below_drewN | apply below_drew1 | refine below_set ?_ (Aside0.out (by assumption))) | exact HB.out))) : w.heap.size ≤ gb542)); have n10_ := Aside0.mk ((by rw [hg]; exact (below_size (by repeat (first | (with_reducible first | exact HB.out | apply below_alloc | apply pw_below_drewN | apply below_drew1 | refine below_set ?_ (Aside0.out (by assumption))) | exact HB.out))) : w.heap.size ≤ gb542)); have n11_ := Aside0.mk ((by rw [hg]; exact Nat.ne_of_lt (blk_lt (qB BK515.out)) : gb515 ≠ gb542)); have n12_ := Aside0.mk ((by rw [hg]; exact Nat.ne_of_gt (blk_lt (qB BK515.out)) : gb542 ≠ gb515)); have n13_ := Aside0.mk ((by rw [hg]; exact Nat.ne_of_lt (blk_lt (qB BK522.out)) : gb522 ≠ gb542)); have n14_ := Aside0.mk ((by rw [hg]; exact Nat.ne_of_gt (blk_lt (qB BK522.out)) : gb542 ≠ gb522)); have n15_ := Aside0.mk ((by rw [hg]; exact Nat.ne_of_lt (blk_lt (qB BK530.out)) : gb530 ≠ gb542)); have n16_ := Aside0.mk ((by rw [hg]; exact Nat.ne_of_gt (blk_lt (qB BK530.out)) : gb542 ≠ gb530)); have n17_ := Aside0.mk ((by rw [hg]; exact Nat.ne_of_lt (blk_lt (qB BK532.out)) : gb532 ≠ gb542)); have n18_ := Aside0.mk ((by rw [hg]; exact Nat.ne_of_gt (blk_lt (qB BK532.out)) : gb542 ≠ gb532)); have n19_ := Aside0.mk ((by rw [hg]; exact Nat.ne_of_lt (blk_lt (qB BK538.out)) : gb538 ≠ gb542)); have n20_ := Aside0.mk ((by rw [hg]; exact Nat.ne_of_gt (blk_lt (qB BK538.out)) : gb542 ≠ gb538)); clear HO_7; clear HO_523002; clear BK515; clear BK522; clear BK530; clear BK532; clear BK538; clear HB; have HO_7 := n0_; have HO_523002 := n1_; have BK515 := n2_; have BK522 := n3_; have BK530 := n4_; have BK532 := n5_; have BK538 := n6_; have HB := n7_; have BK542 := n8_; have GW542 := n9_; have GE542 := n10_; have NB515_542 := n11_; have NB542_515 := n12_; have NB522_542 := n13_; have NB542_522 := n14_; have NB530_542 := n15_; have NB542_530 := n16_; have NB532_542 := n17_; have NB542_532 := n18_; have NB538_542 := n19_; have NB542_538 := n20_; clear n0_ n1_ n2_ n3_ n4_ n5_ n6_ n7_ n8_ n9_ n10_ n11_ n12_ n13_ n14_ n15_ n16_ n17_ n18_ n19_ n20_; clear hb hbox hg; have hnb70 := NB542_515.out; have hnc70 := NB515_542.out; have hnb71 := NB542_522.out; have hnc71 := NB522_542.out; have hnb72 := NB542_530.out; have hnc72 := NB530_542.out; have hnb73 := NB542_532.out; have hnc73 := NB532_542.out; have hnb74 := NB542_538.out; have hnc74 := NB538_542.out; have hcz75_0 : w69.cell? ⟨gb542, 0, none⟩ = some (.int .i64 0) := (blk_cell BK542.out 0).trans rfl; have hcz75_1 : w69.cell? ⟨gb542, 1, none⟩ = some (.int .i64 0) := (blk_cell BK542.out 1).trans rfl; have hfz75_0 := blk_frozen BK542.out 0; have hfz75_1 := blk_frozen BK542.out 1))
               (try simp only [Act.put, qa_, qz_, qs_])
               go_cut [99] (fun v99 wc => ∃ (kq : Nat) (x99_51 : Bool), v99 = .bool x99_51 ∧ Aside0 (partitalaw05_MeterBeats.j3 kq a1 t516 t523 x11_2 x12_2 x99_51 t517 t518 t519 t527 t528 t539 t540 = some r) ∧ Aside0 (kq ≤ kj30) ∧ Aside0 (Kd.R k26 26 wc w.heap.size (fun k_ => k_ ≠ gb530 ∧ k_ ≠ gb532 ∧ k_ ≠ gb538 ∧ k_ ≠ gb542) (.slice (some ad534) t523.length co32) t523) ∧ Aside0 (Kd.R (Kd.int .i64) 3 wc w.heap.size (fun _ => True) (.slice Ao15 t519.length co15) t519) ∧ Aside0 (wc.heap[gb515]? = some (.cells #[.int .i64 a0_0, .int .i64 a0_1, (.slice A0_2 l0_2.length c0_2)] 24 (0, 0))) ∧ Aside0 (wc.heap[gb522]? = some (.cells #[.int .i64 t517, .int .i64 t518, (.slice Ao15 t519.length co15)] 24 (0, 0))) ∧ Aside0 (wc.heap[gb530]? = some (.cells #[.int .i64 t527, .int .i64 t528] 26 (0, 0))) ∧ Aside0 (wc.heap[gb532]? = some (.cells #[.int .i64 x533000_30, .int .i64 x533001_30] 26 (0, 0))) ∧ Aside0 (wc.heap[gb538]? = some (.cells #[.int .i64 t535, .int .i64 t536] 26 (0, 0))) ∧ Aside0 (wc.heap[gb542]? = some (.cells #[.int .i64 t539, .int .i64 t540] 26 (0, 0))) ∧ Aside0 (Below w.heap.size w wc))
               case first =>
                have H := HC52.out
                clear HC52
                by_cases c76 : t537 = 0
                · rw [if_pos c76] at H
                  have c76b0 : (t537 == 0) = true := beq_iff_eq.mpr c76
                  have c76b1 : (t537 != 0) = false := bne_eq_false_iff_eq.mpr c76
                  clear c76
                  (first | rw [c76b0] | (simp only [i64_w, i32_w]; rw [c76b0]) | skip)
                  by_cases c77 : t541 = 0
                  · rw [if_pos c77] at H
                    have c77b0 : (t541 == 0) = true := beq_iff_eq.mpr c77
                    have c77b1 : (t541 != 0) = false := bne_eq_false_iff_eq.mpr c77
                    clear c77
                    by_cases c78 : t540 = 1
                    · rw [if_pos c78] at H
                      have c78b0 : (t540 == 1) = true := beq_iff_eq.mpr c78
                      have c78b1 : (t540 != 1) = false := bne_eq_false_iff_eq.mpr c78
                      clear c78
                      have H' := Aside0.mk H
                      clear H
                      have hnb79 := NB542_515.out
                      have hnc79 := NB515_542.out
                      have hnb80 := NB542_522.out
                      have hnc80 := NB522_542.out
                      have hnb81 := NB542_530.out
                      have hnc81 := NB530_542.out
                      have hnb82 := NB542_532.out
                      have hnc82 := NB532_542.out
                      have hnb83 := NB542_538.out
                      have hnc83 := NB538_542.out
                      have hcz84_0 : w69.cell? ⟨gb542, 0, none⟩ = some (.int .i64 0) := (blk_cell BK542.out 0).trans rfl
                      have hcz84_1 : w69.cell? ⟨gb542, 1, none⟩ = some (.int .i64 0) := (blk_cell BK542.out 1).trans rfl
                      have hfz84_0 := blk_frozen BK542.out 0
                      have hfz84_1 := blk_frozen BK542.out 1
                      go_wp2
                      go_meet
                      case rel => exact ⟨_, (decide (t539 < 1)), (by first | rfl | (simp; done) | (simp [*]; done)), H', ⟨by have := HJ6.out; have := HK2.out; have := HJ30.out; first | omega | exact Nat.le_refl _⟩, ⟨by (with_reducible repeat (first | apply Kd.R_alloc | apply Kd.R_drewN | apply Kd.R_drew)); exact Kd.R_mono (Kd.R_far (p := ⟨gb542, 1, none⟩) (Kd.R_far (p := ⟨gb542, 0, none⟩) (Kd.R_mono HO_7.out (fun k_ hk => (⟨hk, hk.2⟩ : _ ∧ k_ ≠ gb542))) (fun _ hk => hk.2) (.int .i64 t539)) (fun _ hk => hk.2) (.int .i64 t540)) (fun _ hk => ⟨hk.1.1.1, ⟨hk.1.1.2.1, ⟨hk.1.1.2.2, hk.1.2⟩⟩⟩)⟩, ⟨by (with_reducible repeat (first | apply Kd.R_alloc | apply Kd.R_drewN | apply Kd.R_drew)); exact Kd.R_mono (Kd.R_far (p := ⟨gb542, 1, none⟩) (Kd.R_far (p := ⟨gb542, 0, none⟩) (Kd.R_types HO_523002.out BK542.out (by decide)) (fun _ hk => hk.2) (.int .i64 t539)) (fun _ hk => hk.2) (.int .i64 t540)) (fun _ hk => trivial)⟩, ⟨by (with_reducible repeat (first | refine blk_drewN ?_ _ | refine blk_drew ?_ | refine blk_alloc ?_ _)); refine blk_far ?_ NB515_542.out _; (with_reducible repeat (first | refine blk_drewN ?_ _ | refine blk_drew ?_ | refine blk_alloc ?_ _)); refine blk_far ?_ NB515_542.out _; (with_reducible repeat (first | refine blk_drewN ?_ _ | refine blk_drew ?_ | refine blk_alloc ?_ _)); exact BK515.out⟩, ⟨by (with_reducible repeat (first | refine blk_drewN ?_ _ | refine blk_drew ?_ | refine blk_alloc ?_ _)); refine blk_far ?_ NB522_542.out _; (with_reducible repeat (first | refine blk_drewN ?_ _ | refine blk_drew ?_ | refine blk_alloc ?_ _)); refine blk_far ?_ NB522_542.out _; (with_reducible repeat (first | refine blk_drewN ?_ _ | refine blk_drew ?_ | refine blk_alloc ?_ _)); exact BK522.out⟩, ⟨by (with_reducible repeat (first | refine blk_drewN ?_ _ | refine blk_drew ?_ | refine blk_alloc ?_ _)); refine blk_far ?_ NB530_542.out _; (with_reducible repeat (first | refine blk_drewN ?_ _ | refine blk_drew ?_ | refine blk_alloc ?_ _)); refine blk_far ?_ NB530_542.out _; (with_reducible repeat (first | refine blk_drewN ?_ _ | refine blk_drew ?_ | refine blk_alloc ?_ _)); exact BK530.out⟩, ⟨by (with_reducible repeat (first | refine blk_drewN ?_ _ | refine blk_drew ?_ | refine blk_alloc ?_ _)); refine blk_far ?_ NB532_542.out _; (with_reducible repeat (first | refine blk_drewN ?_ _ | refine blk_drew ?_ | refine blk_alloc ?_ _)); refine blk_far ?_ NB532_542.out _; (with_reducible repeat (first | refine blk_drewN ?_ _ | refine blk_drew ?_ | refine blk_alloc ?_ _)); exact BK532.out⟩, ⟨by (with_reducible repeat (first | refine blk_drewN ?_ _ | refine blk_drew ?_ | refine blk_alloc ?_ _)); refine blk_far ?_ NB538_542.out _; (with_reducible repeat (first | refine blk_drewN ?_ _ | refine blk_drew ?_ | refine blk_alloc ?_ _)); refine blk_far ?_ NB538_542.out _; (with_reducible repeat (first | refine blk_drewN ?_ _ | refine blk_drew ?_ | refine blk_alloc ?_ _)); exact BK538.out⟩, ⟨by (with_reducible repeat (first | refine blk_drewN ?_ _ | refine blk_drew ?_ | refine blk_alloc ?_ _)); refine blk_put (cs := #[.int .i64 t539, .int .i64 0]) ?_ 1 _ rfl; (with_reducible repeat (first | refine blk_drewN ?_ _ | refine blk_drew ?_ | refine blk_alloc ?_ _)); refine blk_put (cs := #[.int .i64 0, .int .i64 0]) ?_ 0 _ rfl; (with_reducible repeat (first | refine blk_drewN ?_ _ | refine blk_drew ?_ | refine blk_alloc ?_ _)); exact BK542.out⟩, ⟨by repeat (first | (with_reducible first | exact HB.out | apply below_alloc | apply pw_below_drewN | apply below_drew1 | refine below_set ?_ (Aside0.out (by assumption))) | exact HB.out)⟩⟩
                    · rw [if_neg c78] at H
                      have c78b0 : (t540 == 1) = false := beq_eq_false_iff_ne.mpr c78
                      have c78b1 : (t540 != 1) = true := bne_iff_ne.mpr c78
                      have H' := Aside0.mk H
                      clear H
                      have hnb85 := NB542_515.out
                      have hnc85 := NB515_542.out
                      have hnb86 := NB542_522.out
                      have hnc86 := NB522_542.out
                      have hnb87 := NB542_530.out
                      have hnc87 := NB530_542.out
                      have hnb88 := NB542_532.out
                      have hnc88 := NB532_542.out
                      have hnb89 := NB542_538.out
                      have hnc89 := NB538_542.out
                      have hcz90_0 : w69.cell? ⟨gb542, 0, none⟩ = some (.int .i64 0) := (blk_cell BK542.out 0).trans rfl
                      have hcz90_1 : w69.cell? ⟨gb542, 1, none⟩ = some (.int .i64 0) := (blk_cell BK542.out 1).trans rfl
                      have hfz90_0 := blk_frozen BK542.out 0
                      have hfz90_1 := blk_frozen BK542.out 1
                      go_wp2
                      go_meet
                      case rel => exact ⟨_, (true), (by first | rfl | (simp; done) | (simp [*]; done)), H', ⟨by have := HJ6.out; have := HK2.out; have := HJ30.out; first | omega | exact Nat.le_refl _⟩, ⟨by (with_reducible repeat (first | apply Kd.R_alloc | apply Kd.R_drewN | apply Kd.R_drew)); exact Kd.R_mono (Kd.R_far (p := ⟨gb542, 1, none⟩) (Kd.R_far (p := ⟨gb542, 0, none⟩) (Kd.R_mono HO_7.out (fun k_ hk => (⟨hk, hk.2⟩ : _ ∧ k_ ≠ gb542))) (fun _ hk => hk.2) (.int .i64 t539)) (fun _ hk => hk.2) (.int .i64 t540)) (fun _ hk => ⟨hk.1.1.1, ⟨hk.1.1.2.1, ⟨hk.1.1.2.2, hk.1.2⟩⟩⟩)⟩, ⟨by (with_reducible repeat (first | apply Kd.R_alloc | apply Kd.R_drewN | apply Kd.R_drew)); exact Kd.R_mono (Kd.R_far (p := ⟨gb542, 1, none⟩) (Kd.R_far (p := ⟨gb542, 0, none⟩) (Kd.R_types HO_523002.out BK542.out (by decide)) (fun _ hk => hk.2) (.int .i64 t539)) (fun _ hk => hk.2) (.int .i64 t540)) (fun _ hk => trivial)⟩, ⟨by (with_reducible repeat (first | refine blk_drewN ?_ _ | refine blk_drew ?_ | refine blk_alloc ?_ _)); refine blk_far ?_ NB515_542.out _; (with_reducible repeat (first | refine blk_drewN ?_ _ | refine blk_drew ?_ | refine blk_alloc ?_ _)); refine blk_far ?_ NB515_542.out _; (with_reducible repeat (first | refine blk_drewN ?_ _ | refine blk_drew ?_ | refine blk_alloc ?_ _)); exact BK515.out⟩, ⟨by (with_reducible repeat (first | refine blk_drewN ?_ _ | refine blk_drew ?_ | refine blk_alloc ?_ _)); refine blk_far ?_ NB522_542.out _; (with_reducible repeat (first | refine blk_drewN ?_ _ | refine blk_drew ?_ | refine blk_alloc ?_ _)); refine blk_far ?_ NB522_542.out _; (with_reducible repeat (first | refine blk_drewN ?_ _ | refine blk_drew ?_ | refine blk_alloc ?_ _)); exact BK522.out⟩, ⟨by (with_reducible repeat (first | refine blk_drewN ?_ _ | refine blk_drew ?_ | refine blk_alloc ?_ _)); refine blk_far ?_ NB530_542.out _; (with_reducible repeat (first | refine blk_drewN ?_ _ | refine blk_drew ?_ | refine blk_alloc ?_ _)); refine blk_far ?_ NB530_542.out _; (with_reducible repeat (first | refine blk_drewN ?_ _ | refine blk_drew ?_ | refine blk_alloc ?_ _)); exact BK530.out⟩, ⟨by (with_reducible repeat (first | refine blk_drewN ?_ _ | refine blk_drew ?_ | refine blk_alloc ?_ _)); refine blk_far ?_ NB532_542.out _; (with_reducible repeat (first | refine blk_drewN ?_ _ | refine blk_drew ?_ | refine blk_alloc ?_ _)); refine blk_far ?_ NB532_542.out _; (with_reducible repeat (first | refine blk_drewN ?_ _ | refine blk_drew ?_ | refine blk_alloc ?_ _)); exact BK532.out⟩, ⟨by (with_reducible repeat (first | refine blk_drewN ?_ _ | refine blk_drew ?_ | refine blk_alloc ?_ _)); refine blk_far ?_ NB538_542.out _; (with_reducible repeat (first | refine blk_drewN ?_ _ | refine blk_drew ?_ | refine blk_alloc ?_ _)); refine blk_far ?_ NB538_542.out _; (with_reducible repeat (first | refine blk_drewN ?_ _ | refine blk_drew ?_ | refine blk_alloc ?_ _)); exact BK538.out⟩, ⟨by (with_reducible repeat (first | refine blk_drewN ?_ _ | refine blk_drew ?_ | refine blk_alloc ?_ _)); refine blk_put (cs := #[.int .i64 t539, .int .i64 0]) ?_ 1 _ rfl; (with_reducible repeat (first | refine blk_drewN ?_ _ | refine blk_drew ?_ | refine blk_alloc ?_ _)); refine blk_put (cs := #[.int .i64 0, .int .i64 0]) ?_ 0 _ rfl; (with_reducible repeat (first | refine blk_drewN ?_ _ | refine blk_drew ?_ | refine blk_alloc ?_ _)); exact BK542.out⟩, ⟨by repeat (first | (with_reducible first | exact HB.out | apply below_alloc | apply pw_below_drewN | apply below_drew1 | refine below_set ?_ (Aside0.out (by assumption))) | exact HB.out)⟩⟩
                  · rw [if_neg c77] at H
                    have c77b0 : (t541 == 0) = false := beq_eq_false_iff_ne.mpr c77
                    have c77b1 : (t541 != 0) = true := bne_iff_ne.mpr c77
                    have H' := Aside0.mk H
                    clear H
                    go_wp2
                    go_meet
                    case rel => exact ⟨_, (true), (by first | rfl | (simp; done) | (simp [*]; done)), H', ⟨by have := HJ6.out; have := HK2.out; have := HJ30.out; first | omega | exact Nat.le_refl _⟩, ⟨by (with_reducible repeat (first | apply Kd.R_alloc | apply Kd.R_drewN | apply Kd.R_drew)); exact Kd.R_mono (Kd.R_far (p := ⟨gb542, 1, none⟩) (Kd.R_far (p := ⟨gb542, 0, none⟩) (Kd.R_mono HO_7.out (fun k_ hk => (⟨hk, hk.2⟩ : _ ∧ k_ ≠ gb542))) (fun _ hk => hk.2) (.int .i64 t539)) (fun _ hk => hk.2) (.int .i64 t540)) (fun _ hk => ⟨hk.1.1.1, ⟨hk.1.1.2.1, ⟨hk.1.1.2.2, hk.1.2⟩⟩⟩)⟩, ⟨by (with_reducible repeat (first | apply Kd.R_alloc | apply Kd.R_drewN | apply Kd.R_drew)); exact Kd.R_mono (Kd.R_far (p := ⟨gb542, 1, none⟩) (Kd.R_far (p := ⟨gb542, 0, none⟩) (Kd.R_types HO_523002.out BK542.out (by decide)) (fun _ hk => hk.2) (.int .i64 t539)) (fun _ hk => hk.2) (.int .i64 t540)) (fun _ hk => trivial)⟩, ⟨by (with_reducible repeat (first | refine blk_drewN ?_ _ | refine blk_drew ?_ | refine blk_alloc ?_ _)); refine blk_far ?_ NB515_542.out _; (with_reducible repeat (first | refine blk_drewN ?_ _ | refine blk_drew ?_ | refine blk_alloc ?_ _)); refine blk_far ?_ NB515_542.out _; (with_reducible repeat (first | refine blk_drewN ?_ _ | refine blk_drew ?_ | refine blk_alloc ?_ _)); exact BK515.out⟩, ⟨by (with_reducible repeat (first | refine blk_drewN ?_ _ | refine blk_drew ?_ | refine blk_alloc ?_ _)); refine blk_far ?_ NB522_542.out _; (with_reducible repeat (first | refine blk_drewN ?_ _ | refine blk_drew ?_ | refine blk_alloc ?_ _)); refine blk_far ?_ NB522_542.out _; (with_reducible repeat (first | refine blk_drewN ?_ _ | refine blk_drew ?_ | refine blk_alloc ?_ _)); exact BK522.out⟩, ⟨by (with_reducible repeat (first | refine blk_drewN ?_ _ | refine blk_drew ?_ | refine blk_alloc ?_ _)); refine blk_far ?_ NB530_542.out _; (with_reducible repeat (first | refine blk_drewN ?_ _ | refine blk_drew ?_ | refine blk_alloc ?_ _)); refine blk_far ?_ NB530_542.out _; (with_reducible repeat (first | refine blk_drewN ?_ _ | refine blk_drew ?_ | refine blk_alloc ?_ _)); exact BK530.out⟩, ⟨by (with_reducible repeat (first | refine blk_drewN ?_ _ | refine blk_drew ?_ | refine blk_alloc ?_ _)); refine blk_far ?_ NB532_542.out _; (with_reducible repeat (first | refine blk_drewN ?_ _ | refine blk_drew ?_ | refine blk_alloc ?_ _)); refine blk_far ?_ NB532_542.out _; (with_reducible repeat (first | refine blk_drewN ?_ _ | refine blk_drew ?_ | refine blk_alloc ?_ _)); exact BK532.out⟩, ⟨by (with_reducible repeat (first | refine blk_drewN ?_ _ | refine blk_drew ?_ | refine blk_alloc ?_ _)); refine blk_far ?_ NB538_542.out _; (with_reducible repeat (first | refine blk_drewN ?_ _ | refine blk_drew ?_ | refine blk_alloc ?_ _)); refine blk_far ?_ NB538_542.out _; (with_reducible repeat (first | refine blk_drewN ?_ _ | refine blk_drew ?_ | refine blk_alloc ?_ _)); exact BK538.out⟩, ⟨by (with_reducible repeat (first | refine blk_drewN ?_ _ | refine blk_drew ?_ | refine blk_alloc ?_ _)); refine blk_put (cs := #[.int .i64 t539, .int .i64 0]) ?_ 1 _ rfl; (with_reducible repeat (first | refine blk_drewN ?_ _ | refine blk_drew ?_ | refine blk_alloc ?_ _)); refine blk_put (cs := #[.int .i64 0, .int .i64 0]) ?_ 0 _ rfl; (with_reducible repeat (first | refine blk_drewN ?_ _ | refine blk_drew ?_ | refine blk_alloc ?_ _)); exact BK542.out⟩, ⟨by repeat (first | (with_reducible first | exact HB.out | apply below_alloc | apply pw_below_drewN | apply below_drew1 | refine below_set ?_ (Aside0.out (by assumption))) | exact HB.out)⟩⟩
                · rw [if_neg c76] at H
                  have c76b0 : (t537 == 0) = false := beq_eq_false_iff_ne.mpr c76
                  have c76b1 : (t537 != 0) = true := bne_iff_ne.mpr c76
                  (first | rw [c76b0] | (simp only [i64_w, i32_w]; rw [c76b0]) | skip)
                  have H' := Aside0.mk H
                  clear H
                  go_wp2
                  go_meet
                  case rel => exact ⟨_, (true), (by first | rfl | (simp; done) | (simp [*]; done)), H', ⟨by have := HJ6.out; have := HK2.out; have := HJ30.out; first | omega | exact Nat.le_refl _⟩, ⟨by (with_reducible repeat (first | apply Kd.R_alloc | apply Kd.R_drewN | apply Kd.R_drew)); exact Kd.R_mono (Kd.R_far (p := ⟨gb542, 1, none⟩) (Kd.R_far (p := ⟨gb542, 0, none⟩) (Kd.R_mono HO_7.out (fun k_ hk => (⟨hk, hk.2⟩ : _ ∧ k_ ≠ gb542))) (fun _ hk => hk.2) (.int .i64 t539)) (fun _ hk => hk.2) (.int .i64 t540)) (fun _ hk => ⟨hk.1.1.1, ⟨hk.1.1.2.1, ⟨hk.1.1.2.2, hk.1.2⟩⟩⟩)⟩, ⟨by (with_reducible repeat (first | apply Kd.R_alloc | apply Kd.R_drewN | apply Kd.R_drew)); exact Kd.R_mono (Kd.R_far (p := ⟨gb542, 1, none⟩) (Kd.R_far (p := ⟨gb542, 0, none⟩) (Kd.R_types HO_523002.out BK542.out (by decide)) (fun _ hk => hk.2) (.int .i64 t539)) (fun _ hk => hk.2) (.int .i64 t540)) (fun _ hk => trivial)⟩, ⟨by (with_reducible repeat (first | refine blk_drewN ?_ _ | refine blk_drew ?_ | refine blk_alloc ?_ _)); refine blk_far ?_ NB515_542.out _; (with_reducible repeat (first | refine blk_drewN ?_ _ | refine blk_drew ?_ | refine blk_alloc ?_ _)); refine blk_far ?_ NB515_542.out _; (with_reducible repeat (first | refine blk_drewN ?_ _ | refine blk_drew ?_ | refine blk_alloc ?_ _)); exact BK515.out⟩, ⟨by (with_reducible repeat (first | refine blk_drewN ?_ _ | refine blk_drew ?_ | refine blk_alloc ?_ _)); refine blk_far ?_ NB522_542.out _; (with_reducible repeat (first | refine blk_drewN ?_ _ | refine blk_drew ?_ | refine blk_alloc ?_ _)); refine blk_far ?_ NB522_542.out _; (with_reducible repeat (first | refine blk_drewN ?_ _ | refine blk_drew ?_ | refine blk_alloc ?_ _)); exact BK522.out⟩, ⟨by (with_reducible repeat (first | refine blk_drewN ?_ _ | refine blk_drew ?_ | refine blk_alloc ?_ _)); refine blk_far ?_ NB530_542.out _; (with_reducible repeat (first | refine blk_drewN ?_ _ | refine blk_drew ?_ | refine blk_alloc ?_ _)); refine blk_far ?_ NB530_542.out _; (with_reducible repeat (first | refine blk_drewN ?_ _ | refine blk_drew ?_ | refine blk_alloc ?_ _)); exact BK530.out⟩, ⟨by (with_reducible repeat (first | refine blk_drewN ?_ _ | refine blk_drew ?_ | refine blk_alloc ?_ _)); refine blk_far ?_ NB532_542.out _; (with_reducible repeat (first | refine blk_drewN ?_ _ | refine blk_drew ?_ | refine blk_alloc ?_ _)); refine blk_far ?_ NB532_542.out _; (with_reducible repeat (first | refine blk_drewN ?_ _ | refine blk_drew ?_ | refine blk_alloc ?_ _)); exact BK532.out⟩, ⟨by (with_reducible repeat (first | refine blk_drewN ?_ _ | refine blk_drew ?_ | refine blk_alloc ?_ _)); refine blk_far ?_ NB538_542.out _; (with_reducible repeat (first | refine blk_drewN ?_ _ | refine blk_drew ?_ | refine blk_alloc ?_ _)); refine blk_far ?_ NB538_542.out _; (with_reducible repeat (first | refine blk_drewN ?_ _ | refine blk_drew ?_ | refine blk_alloc ?_ _)); exact BK538.out⟩, ⟨by (with_reducible repeat (first | refine blk_drewN ?_ _ | refine blk_drew ?_ | refine blk_alloc ?_ _)); refine blk_put (cs := #[.int .i64 t539, .int .i64 0]) ?_ 1 _ rfl; (with_reducible repeat (first | refine blk_drewN ?_ _ | refine blk_drew ?_ | refine blk_alloc ?_ _)); refine blk_put (cs := #[.int .i64 0, .int .i64 0]) ?_ 0 _ rfl; (with_reducible repeat (first | refine blk_drewN ?_ _ | refine blk_drew ?_ | refine blk_alloc ?_ _)); exact BK542.out⟩, ⟨by repeat (first | (with_reducible first | exact HB.out | apply below_alloc | apply pw_below_drewN | apply below_drew1 | refine below_set ?_ (Aside0.out (by assumption))) | exact HB.out)⟩⟩
               case rest =>
                clear HC52
                try clear c2
                try clear p2
                try clear c3
                try clear c4
                try clear c5
                try clear p5
                try clear q5
                try clear hx5
                try clear c6
                try clear c7
                try clear c8
                try clear c29
                try clear c30
                try clear c30b0
                try clear c32
                try clear c33
                try clear c34
                try clear c37
                try clear c38
                try clear c39
                try clear c41
                try clear c41b0
                try clear c43
                try clear c43b0
                try clear c44
                try clear c45
                try clear c46
                try clear c48
                try clear c48b0
                try clear c49
                try clear c49b0
                try clear p53
                try clear q53
                try clear hx53
                try clear c59
                try clear c60
                try clear c61
                try clear c62
                try clear c64
                try clear c65
                try clear c66
                try clear c70
                try clear c71
                try clear c72
                try clear c73
                try clear c74
                try clear c76
                try clear c76b0
                try clear c76b1
                try clear c77
                try clear c77b0
                try clear c77b1
                try clear c78
                try clear c78b0
                try clear c78b1
                try clear c79
                try clear c80
                try clear c81
                try clear c82
                try clear c83
                try clear c85
                try clear c86
                try clear c87
                try clear c88
                try clear c89
                try clear hcz10_0
                try clear hcz10_1
                try clear hcz10_2
                try clear hcz14_0
                try clear hcz14_1
                try clear hcz14_2
                try clear hcz17_0
                try clear hcz17_1
                try clear hcz17_2
                try clear hcz22_0
                try clear hcz22_1
                try clear hcz35_0
                try clear hcz35_1
                try clear hcz40_0
                try clear hcz40_1
                try clear hcz47_0
                try clear hcz47_1
                try clear hcz63_0
                try clear hcz63_1
                try clear hcz67_0
                try clear hcz67_1
                try clear hcz67_2
                try clear hcz75_0
                try clear hcz75_1
                try clear hcz84_0
                try clear hcz84_1
                try clear hcz90_0
                try clear hcz90_1
                try clear hfz10_0
                try clear hfz10_1
                try clear hfz10_2
                try clear hfz14_0
                try clear hfz14_1
                try clear hfz14_2
                try clear hfz17_0
                try clear hfz17_1
                try clear hfz17_2
                try clear hfz22_0
                try clear hfz22_1
                try clear hfz35_0
                try clear hfz35_1
                try clear hfz40_0
                try clear hfz40_1
                try clear hfz47_0
                try clear hfz47_1
                try clear hfz63_0
                try clear hfz63_1
                try clear hfz67_0
                try clear hfz67_1
                try clear hfz67_2
                try clear hfz75_0
                try clear hfz75_1
                try clear hfz84_0
                try clear hfz84_1
                try clear hfz90_0
                try clear hfz90_1
                try clear hx531_0
                try clear hx531_1
                try clear hx533_0
                try clear hx533_1
                try clear hx534_0
                try clear hx534_1
                try clear p2
                try clear p5
                try clear p531
                try clear p533
                try clear p534
                try clear q5
                try clear q531
                try clear q533
                try clear q534
                obtain ⟨kq, x99_51, rfl, HA, HJ51, HO_7, HO_523002, BK515, BK522, BK530, BK532, BK538, BK542, HB⟩ := hcut
                cases kq with
                | zero => exact absurd HA.out (by simp [partitalaw05_MeterBeats.j3])
                | succ kj51 =>
                 have H := HA.out
                 clear HA
                 simp only [partitalaw05_MeterBeats.j3] at H
                 by_cases c91 : x99_51 = true
                 · subst c91
                   have H1 : none = some r := by rw [if_pos rfl] at H; exact H
                   cases H1
                 · replace c91 := Bool.eq_false_iff.mpr c91
                   subst c91
                   have H1 : (if a1 = true then (if x12_2 ≥ (t519.length : Int) then (partitalaw05_MeterBeats.j4 kj51 a1 t516 t523 x11_2 x12_2 true t517 t518 t519 t527 t528 t539 t540) else (if 0 ≤ x12_2 then (if x12_2 < (t519.length : Int) then (partitalaw05_MeterBeats.j4 kj51 a1 t516 t523 x11_2 x12_2 (t539 != (rd t519 x12_2)) t517 t518 t519 t527 t528 t539 t540) else (none)) else (none))) else (partitalaw05_MeterBeats.j4 kj51 a1 t516 t523 x11_2 x12_2 false t517 t518 t519 t527 t528 t539 t540)) = some r := by rw [if_neg (show ¬ (false = true) by decide)] at H; exact H
                   clear H
                   have H := H1
                   clear H1
                   have HC92 := Aside0.mk H
                   clear H
                   go_upto_region 18 with (fail)
                   go_cut [117] (fun v117 wc => ∃ (kq : Nat) (x117_91 : Bool), v117 = .bool x117_91 ∧ Aside0 (partitalaw05_MeterBeats.j4 kq a1 t516 t523 x11_2 x12_2 x117_91 t517 t518 t519 t527 t528 t539 t540 = some r) ∧ Aside0 (kq ≤ kj51) ∧ Aside0 (Kd.R k26 26 wc w.heap.size (fun k_ => k_ ≠ gb530 ∧ k_ ≠ gb532 ∧ k_ ≠ gb538 ∧ k_ ≠ gb542) (.slice (some ad534) t523.length co32) t523) ∧ Aside0 (Kd.R (Kd.int .i64) 3 wc w.heap.size (fun _ => True) (.slice Ao15 t519.length co15) t519) ∧ Aside0 (wc.heap[gb515]? = some (.cells #[.int .i64 a0_0, .int .i64 a0_1, (.slice A0_2 l0_2.length c0_2)] 24 (0, 0))) ∧ Aside0 (wc.heap[gb522]? = some (.cells #[.int .i64 t517, .int .i64 t518, (.slice Ao15 t519.length co15)] 24 (0, 0))) ∧ Aside0 (wc.heap[gb530]? = some (.cells #[.int .i64 t527, .int .i64 t528] 26 (0, 0))) ∧ Aside0 (wc.heap[gb532]? = some (.cells #[.int .i64 x533000_30, .int .i64 x533001_30] 26 (0, 0))) ∧ Aside0 (wc.heap[gb538]? = some (.cells #[.int .i64 t535, .int .i64 t536] 26 (0, 0))) ∧ Aside0 (wc.heap[gb542]? = some (.cells #[.int .i64 t539, .int .i64 t540] 26 (0, 0))) ∧ Aside0 (Below w.heap.size w wc))
                   case first =>
                    have H := HC92.out
                    clear HC92
                    by_cases c93 : a1 = true
                    · subst c93
                      have H1 : (if x12_2 ≥ (t519.length : Int) then (partitalaw05_MeterBeats.j4 kj51 true t516 t523 x11_2 x12_2 true t517 t518 t519 t527 t528 t539 t540) else (if 0 ≤ x12_2 then (if x12_2 < (t519.length : Int) then (partitalaw05_MeterBeats.j4 kj51 true t516 t523 x11_2 x12_2 (t539 != (rd t519 x12_2)) t517 t518 t519 t527 t528 t539 t540) else (none)) else (none))) = some r := by rw [if_pos rfl] at H; exact H
                      clear H
                      have H := H1
                      clear H1
                      by_cases c94 : x12_2 ≥ (t519.length : Int)
                      · rw [if_pos c94] at H
                        have c94b0 : decide ((t519.length : Int) ≤ x12_2) = true := decide_eq_true c94
                        clear c94
                        (first | rw [c94b0] | (simp only [i64_w, i32_w]; rw [c94b0]) | skip)
                        have H' := Aside0.mk H
                        clear H
                        try go_wp2
                        have n0_ := Aside0.mk (Kd.R_drew HO_7.out)
                        have n1_ := Aside0.mk (Kd.R_drew HO_523002.out)
                        have n2_ := Aside0.mk (blk_drew BK515.out)
                        have n3_ := Aside0.mk (blk_drew BK522.out)
                        have n4_ := Aside0.mk (blk_drew BK530.out)
                        have n5_ := Aside0.mk (blk_drew BK532.out)
                        have n6_ := Aside0.mk (blk_drew BK538.out)
                        have n7_ := Aside0.mk (blk_drew BK542.out)
                        have n8_ := Aside0.mk (below_drew1 HB.out)
                        clear HO_7
                        clear HO_523002
                        clear BK515
                        clear BK522
                        clear BK530
                        clear BK532
                        clear BK538
                        clear BK542
                        clear HB
                        have HO_7 := n0_
                        have HO_523002 := n1_
                        have BK515 := n2_
                        have BK522 := n3_
                        have BK530 := n4_
                        have BK532 := n5_
                        have BK538 := n6_
                        have BK542 := n7_
                        have HB := n8_
                        clear n0_ n1_ n2_ n3_ n4_ n5_ n6_ n7_ n8_
                        refine start_ (n := 18) (S := fun w' => w'.cell? ⟨gb522, 0, none⟩ = some (.int .i64 t517) ∧ w'.cell? ⟨gb522, 1, none⟩ = some (.int .i64 t518) ∧ w'.cell? ⟨gb522, 2, none⟩ = some (.slice Ao15 t519.length co15)) (ds := []) #[false, false, false, false, false, false, false, false, false, false, false, false, false, false, false, false, false, false] (by kernel_rfl) rfl rfl ⟨(blk_cell BK522.out 0).trans rfl, (blk_cell BK522.out 1).trans rfl, (blk_cell BK522.out 2).trans rfl⟩ (fun hHeld => ?_); refine with_tabW partitalaw05_MeterBeats.tab18 partitalaw05_MeterBeats.bits18 (fun HT_ HW_ => ?_)
                        generalize wc.drew = w95 at HO_7 HO_523002 BK515 BK522 BK530 BK532 BK538 BK542 HB hHeld ⊢
                        refine pure_ (i := 0) (N := some 100) (v := ?_) (a' := ?_) #[true, false, false, false, false, false, false, false, false, false, false, false, false, false, false, false, false, false] rfl rfl (any_of HT_.out (by kernel_rfl)) (fun _ _ _ h => h) (Or.inl ⟨by rfl, ?_⟩) ?_ ?_
                        rotate_left
                        · intro w'
                          go_simp
                          with_reducible rfl
                        rotate_left
                        · simp only [Act.put, qa_, qz_, qs_, i64_w, i32_w]
                          rfl
                        refine pure_ (i := 1) (N := some 101) (v := ?_) (a' := ?_) #[true, true, false, false, false, false, false, false, false, false, false, false, false, false, false, false, false, false] rfl rfl (any_of HT_.out (by kernel_rfl)) (fun _ _ _ h => h) (Or.inl ⟨by rfl, ?_⟩) ?_ ?_
                        rotate_left
                        · intro w'
                          go_simp
                          with_reducible rfl
                        rotate_left
                        · simp only [Act.put, qa_, qz_, qs_, i64_w, i32_w]
                          rfl
                        refine pure_ (i := 2) (N := some 102) (v := ?_) (a' := ?_) #[true, true, true, false, false, false, false, false, false, false, false, false, false, false, false, false, false, false] rfl rfl (any_of HT_.out (by kernel_rfl)) (fun _ _ _ h => h) (Or.inl ⟨by rfl, ?_⟩) ?_ ?_
                        rotate_left
                        · intro w'
                          go_simp
                          with_reducible rfl
                        rotate_left
                        · simp only [Act.put, qa_, qz_, qs_, i64_w, i32_w]
                          rfl
                        refine pure_ (i := 3) (N := some 103) (v := ?_) (a' := ?_) #[true, true, true, true, false, false, false, false, false, false, false, false, false, false, false, false, false, false] rfl rfl (any_of HT_.out (by kernel_rfl)) (fun _ _ _ h => h) (Or.inl ⟨by rfl, ?_⟩) ?_ ?_
                        rotate_left
                        · intro w'
                          go_simp
                          with_reducible rfl
                        rotate_left
                        · simp only [Act.put, qa_, qz_, qs_, i64_w, i32_w]
                          rfl
                        refine take_ (i := 4) (N := some 104) (v := ?_) (a' := ?_) #[true, true, true, true, true, false, false, false, false, false, false, false, false, false, false, false, false, false] rfl rfl (take_ofW HT_.out HW_.out (by kernel_rfl)) (fun _ _ _ h => h) (Or.inl ⟨by rfl, ?_⟩) hHeld ?_ ?_
                        rotate_left
                        · rintro w' ⟨s0, s1, s2⟩
                          go_simp
                          with_reducible rfl
                        rotate_left
                        · simp only [Act.put, qa_, qz_, qs_, i64_w, i32_w]
                          rfl
                        refine pure_ (i := 5) (N := some 105) (v := ?_) (a' := ?_) #[true, true, true, true, true, true, false, false, false, false, false, false, false, false, false, false, false, false] rfl rfl (any_of HT_.out (by kernel_rfl)) (fun _ _ _ h => h) (Or.inl ⟨by rfl, ?_⟩) ?_ ?_
                        rotate_left
                        · intro w'
                          go_simp
                          with_reducible rfl
                        rotate_left
                        · simp only [Act.put, qa_, qz_, qs_, i64_w, i32_w]
                          rfl
                        refine pure_ (i := 6) (N := some 106) (v := ?_) (a' := ?_) #[true, true, true, true, true, true, true, false, false, false, false, false, false, false, false, false, false, false] rfl rfl (any_of HT_.out (by kernel_rfl)) (fun _ _ _ h => h) (Or.inl ⟨by rfl, ?_⟩) ?_ ?_
                        rotate_left
                        · intro w'
                          go_simp
                          with_reducible rfl
                        rotate_left
                        · simp only [Act.put, qa_, qz_, qs_, i64_w, i32_w]
                          rfl
                        refine pure_ (i := 7) (N := some 107) (v := ?_) (a' := ?_) #[true, true, true, true, true, true, true, true, false, false, false, false, false, false, false, false, false, false] rfl rfl (any_of HT_.out (by kernel_rfl)) (fun _ _ _ h => h) (Or.inl ⟨by rfl, ?_⟩) ?_ ?_
                        rotate_left
                        · intro w'
                          go_simp
                          with_reducible rfl
                        rotate_left
                        · simp only [Act.put, qa_, qz_, qs_, i64_w, i32_w]
                          rfl
                        refine pure_ (i := 8) (N := some 108) (v := undef) (a' := ?_) #[true, true, true, true, true, true, true, true, true, false, false, false, false, false, false, false, false, false] rfl rfl (any_of HT_.out (by kernel_rfl)) (fun _ _ _ h => h) (Or.inr ⟨by rfl, rfl⟩) ?_ ?_
                        rotate_left
                        · simp only [Act.put, qa_, qz_, qs_, i64_w, i32_w]
                          rfl
                        refine pure_ (i := 9) (N := some 109) (v := undef) (a' := ?_) #[true, true, true, true, true, true, true, true, true, true, false, false, false, false, false, false, false, false] rfl rfl (any_of HT_.out (by kernel_rfl)) (fun _ _ _ h => h) (Or.inr ⟨by rfl, rfl⟩) ?_ ?_
                        rotate_left
                        · simp only [Act.put, qa_, qz_, qs_, i64_w, i32_w]
                          rfl
                        refine pure_ (i := 10) (N := some 110) (v := undef) (a' := ?_) #[true, true, true, true, true, true, true, true, true, true, true, false, false, false, false, false, false, false] rfl rfl (any_of HT_.out (by kernel_rfl)) (fun _ _ _ h => h) (Or.inr ⟨by rfl, rfl⟩) ?_ ?_
                        rotate_left
                        · simp only [Act.put, qa_, qz_, qs_, i64_w, i32_w]
                          rfl
                        refine pure_ (i := 11) (N := some 111) (v := undef) (a' := ?_) #[true, true, true, true, true, true, true, true, true, true, true, true, false, false, false, false, false, false] rfl rfl (any_of HT_.out (by kernel_rfl)) (fun _ _ _ h => h) (Or.inr ⟨by rfl, rfl⟩) ?_ ?_
                        rotate_left
                        · simp only [Act.put, qa_, qz_, qs_, i64_w, i32_w]
                          rfl
                        refine pure_ (i := 12) (N := some 112) (v := undef) (a' := ?_) #[true, true, true, true, true, true, true, true, true, true, true, true, true, false, false, false, false, false] rfl rfl (any_of HT_.out (by kernel_rfl)) (fun _ _ _ h => h) (Or.inr ⟨by rfl, rfl⟩) ?_ ?_
                        rotate_left
                        · simp only [Act.put, qa_, qz_, qs_, i64_w, i32_w]
                          rfl
                        refine pure_ (i := 13) (N := some 113) (v := undef) (a' := ?_) #[true, true, true, true, true, true, true, true, true, true, true, true, true, true, false, false, false, false] rfl rfl (any_of HT_.out (by kernel_rfl)) (fun _ _ _ h => h) (Or.inr ⟨by rfl, rfl⟩) ?_ ?_
                        rotate_left
                        · simp only [Act.put, qa_, qz_, qs_, i64_w, i32_w]
                          rfl
                        refine pure_ (i := 14) (N := some 114) (v := undef) (a' := ?_) #[true, true, true, true, true, true, true, true, true, true, true, true, true, true, true, false, false, false] rfl rfl (any_of HT_.out (by kernel_rfl)) (fun _ _ _ h => h) (Or.inr ⟨by rfl, rfl⟩) ?_ ?_
                        rotate_left
                        · simp only [Act.put, qa_, qz_, qs_, i64_w, i32_w]
                          rfl
                        refine pure_ (i := 15) (N := some 115) (v := undef) (a' := ?_) #[true, true, true, true, true, true, true, true, true, true, true, true, true, true, true, true, false, false] rfl rfl (any_of HT_.out (by kernel_rfl)) (fun _ _ _ h => h) (Or.inr ⟨by rfl, rfl⟩) ?_ ?_
                        rotate_left
                        · simp only [Act.put, qa_, qz_, qs_, i64_w, i32_w]
                          rfl
                        refine pure_ (i := 16) (N := some 116) (v := ?_) (a' := ?_) #[true, true, true, true, true, true, true, true, true, true, true, true, true, true, true, true, true, false] rfl rfl (any_of HT_.out (by kernel_rfl)) (fun _ _ _ h => h) (Or.inl ⟨by rfl, ?_⟩) ?_ ?_
                        rotate_left
                        · intro w'
                          go_simp
                          with_reducible rfl
                        rotate_left
                        · simp only [Act.put, qa_, qz_, qs_, i64_w, i32_w]
                          rfl
                        refine pure_ (i := 17) (N := some 117) (v := ?_) (a' := ?_) #[true, true, true, true, true, true, true, true, true, true, true, true, true, true, true, true, true, true] rfl rfl (any_of HT_.out (by kernel_rfl)) (fun _ _ _ h => h) (Or.inl ⟨by rfl, ?_⟩) ?_ ?_
                        rotate_left
                        · intro w'
                          go_simp
                          with_reducible rfl
                        rotate_left
                        · simp only [Act.put, qa_, qz_, qs_, i64_w, i32_w]
                          rfl
                        refine done_ (done_of HT_.out (by kernel_rfl)) ?_
                        try go_wp2
                        go_meet
                        case rel => exact ⟨_, (true), (by first | rfl | (simp; done) | (simp [*]; done)), H', ⟨by have := HJ6.out; have := HK2.out; have := HJ30.out; have := HJ51.out; first | omega | exact Nat.le_refl _⟩, ⟨by (with_reducible repeat (first | apply Kd.R_alloc | apply Kd.R_drewN | apply Kd.R_drew)); exact HO_7.out⟩, ⟨by (with_reducible repeat (first | apply Kd.R_alloc | apply Kd.R_drewN | apply Kd.R_drew)); exact HO_523002.out⟩, ⟨by (with_reducible repeat (first | refine blk_drewN ?_ _ | refine blk_drew ?_ | refine blk_alloc ?_ _)); exact BK515.out⟩, ⟨by (with_reducible repeat (first | refine blk_drewN ?_ _ | refine blk_drew ?_ | refine blk_alloc ?_ _)); exact BK522.out⟩, ⟨by (with_reducible repeat (first | refine blk_drewN ?_ _ | refine blk_drew ?_ | refine blk_alloc ?_ _)); exact BK530.out⟩, ⟨by (with_reducible repeat (first | refine blk_drewN ?_ _ | refine blk_drew ?_ | refine blk_alloc ?_ _)); exact BK532.out⟩, ⟨by (with_reducible repeat (first | refine blk_drewN ?_ _ | refine blk_drew ?_ | refine blk_alloc ?_ _)); exact BK538.out⟩, ⟨by (with_reducible repeat (first | refine blk_drewN ?_ _ | refine blk_drew ?_ | refine blk_alloc ?_ _)); exact BK542.out⟩, ⟨by repeat (first | (with_reducible first | exact HB.out | apply below_alloc | apply pw_below_drewN | apply below_drew1 | refine below_set ?_ (Aside0.out (by assumption))) | exact HB.out)⟩⟩
                      · rw [if_neg c94] at H
                        have c94b0 : decide ((t519.length : Int) ≤ x12_2) = false := decide_eq_false c94
                        clear c94
                        (first | rw [c94b0] | (simp only [i64_w, i32_w]; rw [c94b0]) | skip)
                        by_cases c96 : 0 ≤ x12_2
                        · rw [if_pos c96] at H
                          have c96b0 : decide (0 ≤ x12_2) = true := decide_eq_true c96
                          clear c96
                          by_cases c97 : x12_2 < (t519.length : Int)
                          · rw [if_pos c97] at H
                            have c97b0 : decide (x12_2 < (t519.length : Int)) = true := decide_eq_true c97
                            clear c97
                            have H' := Aside0.mk H
                            clear H
                            try go_wp2
                            have n0_ := Aside0.mk (Kd.R_drew HO_7.out)
                            have n1_ := Aside0.mk (Kd.R_drew HO_523002.out)
                            have n2_ := Aside0.mk (blk_drew BK515.out)
                            have n3_ := Aside0.mk (blk_drew BK522.out)
                            have n4_ := Aside0.mk (blk_drew BK530.out)
                            have n5_ := Aside0.mk (blk_drew BK532.out)
                            have n6_ := Aside0.mk (blk_drew BK538.out)
                            have n7_ := Aside0.mk (blk_drew BK542.out)
                            have n8_ := Aside0.mk (below_drew1 HB.out)
                            clear HO_7
                            clear HO_523002
                            clear BK515
                            clear BK522
                            clear BK530
                            clear BK532
                            clear BK538
                            clear BK542
                            clear HB
                            have HO_7 := n0_
                            have HO_523002 := n1_
                            have BK515 := n2_
                            have BK522 := n3_
                            have BK530 := n4_
                            have BK532 := n5_
                            have BK538 := n6_
                            have BK542 := n7_
                            have HB := n8_
                            clear n0_ n1_ n2_ n3_ n4_ n5_ n6_ n7_ n8_
                            have p543 : 0 ≤ (x12_2 : Int) := of_decide_eq_true (by first | (with_reducible assumption) | assumption)
                            have q543 : x12_2 < (t519.length : Int) := of_decide_eq_true (by first | (with_reducible assumption) | assumption)
                            obtain ⟨ad543, e543, hx543_0⟩ := Kd.at_int (Kd.R_reads' HO_523002.out).2.2 x12_2 p543 q543
                            cases e543
                            replace p543 := eq_true p543
                            replace q543 := eq_true q543
                            refine start_ (n := 18) (S := fun w' => w'.cell? ⟨gb522, 0, none⟩ = some (.int .i64 t517) ∧ w'.cell? ⟨gb522, 1, none⟩ = some (.int .i64 t518) ∧ w'.cell? ⟨gb522, 2, none⟩ = some (.slice (some ad543) t519.length co15) ∧ w'.cell? ⟨gb542, 0, none⟩ = some (.int .i64 t539) ∧ w'.cell? ⟨gb542, 1, none⟩ = some (.int .i64 t540) ∧ w'.cell? (ad543.add (x12_2).toNat) = some (.int .i64 (rd t519 x12_2))) (ds := []) #[false, false, false, false, false, false, false, false, false, false, false, false, false, false, false, false, false, false] (by kernel_rfl) rfl rfl ⟨(blk_cell BK522.out 0).trans rfl, (blk_cell BK522.out 1).trans rfl, (blk_cell BK522.out 2).trans rfl, (blk_cell BK542.out 0).trans rfl, (blk_cell BK542.out 1).trans rfl, hx543_0⟩ (fun hHeld => ?_); refine with_tabW partitalaw05_MeterBeats.tab18 partitalaw05_MeterBeats.bits18 (fun HT_ HW_ => ?_)
                            generalize wc.drew = w98 at HO_7 HO_523002 BK515 BK522 BK530 BK532 BK538 BK542 HB hx543_0 hHeld ⊢
                            refine pure_ (i := 0) (N := some 100) (v := ?_) (a' := ?_) #[true, false, false, false, false, false, false, false, false, false, false, false, false, false, false, false, false, false] rfl rfl (any_of HT_.out (by kernel_rfl)) (fun _ _ _ h => h) (Or.inl ⟨by rfl, ?_⟩) ?_ ?_
                            rotate_left
                            · intro w'
                              go_simp
                              with_reducible rfl
                            rotate_left
                            · simp only [Act.put, qa_, qz_, qs_, i64_w, i32_w]
                              rfl
                            refine pure_ (i := 1) (N := some 101) (v := ?_) (a' := ?_) #[true, true, false, false, false, false, false, false, false, false, false, false, false, false, false, false, false, false] rfl rfl (any_of HT_.out (by kernel_rfl)) (fun _ _ _ h => h) (Or.inl ⟨by rfl, ?_⟩) ?_ ?_
                            rotate_left
                            · intro w'
                              go_simp
                              with_reducible rfl
                            rotate_left
                            · simp only [Act.put, qa_, qz_, qs_, i64_w, i32_w]
                              rfl
                            refine pure_ (i := 2) (N := some 102) (v := ?_) (a' := ?_) #[true, true, true, false, false, false, false, false, false, false, false, false, false, false, false, false, false, false] rfl rfl (any_of HT_.out (by kernel_rfl)) (fun _ _ _ h => h) (Or.inl ⟨by rfl, ?_⟩) ?_ ?_
                            rotate_left
                            · intro w'
                              go_simp
                              with_reducible rfl
                            rotate_left
                            · simp only [Act.put, qa_, qz_, qs_, i64_w, i32_w]
                              rfl
                            refine pure_ (i := 3) (N := some 103) (v := ?_) (a' := ?_) #[true, true, true, true, false, false, false, false, false, false, false, false, false, false, false, false, false, false] rfl rfl (any_of HT_.out (by kernel_rfl)) (fun _ _ _ h => h) (Or.inl ⟨by rfl, ?_⟩) ?_ ?_
                            rotate_left
                            · intro w'
                              go_simp
                              with_reducible rfl
                            rotate_left
                            · simp only [Act.put, qa_, qz_, qs_, i64_w, i32_w]
                              rfl
                            refine take_ (i := 4) (N := some 104) (v := ?_) (a' := ?_) #[true, true, true, true, true, false, false, false, false, false, false, false, false, false, false, false, false, false] rfl rfl (take_ofW HT_.out HW_.out (by kernel_rfl)) (fun _ _ _ h => h) (Or.inl ⟨by rfl, ?_⟩) hHeld ?_ ?_
                            rotate_left
                            · rintro w' ⟨s0, s1, s2, s3, s4, s5⟩
                              go_simp
                              with_reducible rfl
                            rotate_left
                            · simp only [Act.put, qa_, qz_, qs_, i64_w, i32_w]
                              rfl
                            refine pure_ (i := 5) (N := some 105) (v := ?_) (a' := ?_) #[true, true, true, true, true, true, false, false, false, false, false, false, false, false, false, false, false, false] rfl rfl (any_of HT_.out (by kernel_rfl)) (fun _ _ _ h => h) (Or.inl ⟨by rfl, ?_⟩) ?_ ?_
                            rotate_left
                            · intro w'
                              go_simp
                              with_reducible rfl
                            rotate_left
                            · simp only [Act.put, qa_, qz_, qs_, i64_w, i32_w]
                              rfl
                            refine pure_ (i := 6) (N := some 106) (v := ?_) (a' := ?_) #[true, true, true, true, true, true, true, false, false, false, false, false, false, false, false, false, false, false] rfl rfl (any_of HT_.out (by kernel_rfl)) (fun _ _ _ h => h) (Or.inl ⟨by rfl, ?_⟩) ?_ ?_
                            rotate_left
                            · intro w'
                              go_simp
                              with_reducible rfl
                            rotate_left
                            · simp only [Act.put, qa_, qz_, qs_, i64_w, i32_w]
                              rfl
                            refine pure_ (i := 7) (N := some 107) (v := ?_) (a' := ?_) #[true, true, true, true, true, true, true, true, false, false, false, false, false, false, false, false, false, false] rfl rfl (any_of HT_.out (by kernel_rfl)) (fun _ _ _ h => h) (Or.inl ⟨by rfl, ?_⟩) ?_ ?_
                            rotate_left
                            · intro w'
                              go_simp
                              with_reducible rfl
                            rotate_left
                            · simp only [Act.put, qa_, qz_, qs_, i64_w, i32_w]
                              rfl
                            refine pure_ (i := 8) (N := some 108) (v := ?_) (a' := ?_) #[true, true, true, true, true, true, true, true, true, false, false, false, false, false, false, false, false, false] rfl rfl (any_of HT_.out (by kernel_rfl)) (fun _ _ _ h => h) (Or.inl ⟨by rfl, ?_⟩) ?_ ?_
                            rotate_left
                            · intro w'
                              go_simp
                              with_reducible rfl
                            rotate_left
                            · simp only [Act.put, qa_, qz_, qs_, i64_w, i32_w]
                              rfl
                            refine pure_ (i := 10) (N := some 110) (v := ?_) (a' := ?_) #[true, true, true, true, true, true, true, true, true, false, true, false, false, false, false, false, false, false] rfl rfl (any_of HT_.out (by kernel_rfl)) (fun _ _ _ h => h) (Or.inl ⟨by rfl, ?_⟩) ?_ ?_
                            rotate_left
                            · intro w'
                              go_simp
                              with_reducible rfl
                            rotate_left
                            · simp only [Act.put, qa_, qz_, qs_, i64_w, i32_w]
                              rfl
                            refine pure_ (i := 12) (N := some 112) (v := ?_) (a' := ?_) #[true, true, true, true, true, true, true, true, true, false, true, false, true, false, false, false, false, false] rfl rfl (any_of HT_.out (by kernel_rfl)) (fun _ _ _ h => h) (Or.inl ⟨by rfl, ?_⟩) ?_ ?_
                            rotate_left
                            · intro w'
                              go_simp
                              with_reducible rfl
                            rotate_left
                            · simp only [Act.put, qa_, qz_, qs_, i64_w, i32_w]
                              rfl
                            refine take_ (i := 9) (N := some 109) (v := ?_) (a' := ?_) #[true, true, true, true, true, true, true, true, true, true, true, false, true, false, false, false, false, false] rfl rfl (take_ofW HT_.out HW_.out (by kernel_rfl)) (fun _ _ _ h => h) (Or.inl ⟨by rfl, ?_⟩) hHeld ?_ ?_
                            rotate_left
                            · rintro w' ⟨s0, s1, s2, s3, s4, s5⟩
                              go_simp
                              with_reducible rfl
                            rotate_left
                            · simp only [Act.put, qa_, qz_, qs_, i64_w, i32_w]
                              rfl
                            refine take_ (i := 11) (N := some 111) (v := ?_) (a' := ?_) #[true, true, true, true, true, true, true, true, true, true, true, true, true, false, false, false, false, false] rfl rfl (take_ofW HT_.out HW_.out (by kernel_rfl)) (fun _ _ _ h => h) (Or.inl ⟨by rfl, ?_⟩) hHeld ?_ ?_
                            rotate_left
                            · rintro w' ⟨s0, s1, s2, s3, s4, s5⟩
                              go_simp
                              with_reducible rfl
                            rotate_left
                            · simp only [Act.put, qa_, qz_, qs_, i64_w, i32_w]
                              rfl
                            refine pure_ (i := 13) (N := some 113) (v := ?_) (a' := ?_) #[true, true, true, true, true, true, true, true, true, true, true, true, true, true, false, false, false, false] rfl rfl (any_of HT_.out (by kernel_rfl)) (fun _ _ _ h => h) (Or.inl ⟨by rfl, ?_⟩) ?_ ?_
                            rotate_left
                            · intro w'
                              go_simp
                              with_reducible rfl
                            rotate_left
                            · simp only [Act.put, qa_, qz_, qs_, i64_w, i32_w]
                              rfl
                            refine take_ (i := 14) (N := some 114) (v := ?_) (a' := ?_) #[true, true, true, true, true, true, true, true, true, true, true, true, true, true, true, false, false, false] rfl rfl (take_ofW HT_.out HW_.out (by kernel_rfl)) (fun _ _ _ h => h) (Or.inl ⟨by rfl, ?_⟩) hHeld ?_ ?_
                            rotate_left
                            · rintro w' ⟨s0, s1, s2, s3, s4, s5⟩
                              go_simp
                              with_reducible rfl
                            rotate_left
                            · simp only [Act.put, qa_, qz_, qs_, i64_w, i32_w]
                              rfl
                            refine pure_ (i := 15) (N := some 115) (v := ?_) (a' := ?_) #[true, true, true, true, true, true, true, true, true, true, true, true, true, true, true, true, false, false] rfl rfl (any_of HT_.out (by kernel_rfl)) (fun _ _ _ h => h) (Or.inl ⟨by rfl, ?_⟩) ?_ ?_
                            rotate_left
                            · intro w'
                              go_simp
                              with_reducible rfl
                            rotate_left
                            · simp only [Act.put, qa_, qz_, qs_, i64_w, i32_w]
                              rfl
                            refine pure_ (i := 16) (N := some 116) (v := ?_) (a' := ?_) #[true, true, true, true, true, true, true, true, true, true, true, true, true, true, true, true, true, false] rfl rfl (any_of HT_.out (by kernel_rfl)) (fun _ _ _ h => h) (Or.inl ⟨by rfl, ?_⟩) ?_ ?_
                            rotate_left
                            · intro w'
                              go_simp
                              with_reducible rfl
                            rotate_left
                            · simp only [Act.put, qa_, qz_, qs_, i64_w, i32_w]
                              rfl
                            refine pure_ (i := 17) (N := some 117) (v := ?_) (a' := ?_) #[true, true, true, true, true, true, true, true, true, true, true, true, true, true, true, true, true, true] rfl rfl (any_of HT_.out (by kernel_rfl)) (fun _ _ _ h => h) (Or.inl ⟨by rfl, ?_⟩) ?_ ?_
                            rotate_left
                            · intro w'
                              go_simp
                              with_reducible rfl
                            rotate_left
                            · simp only [Act.put, qa_, qz_, qs_, i64_w, i32_w]
                              rfl
                            refine done_ (done_of HT_.out (by kernel_rfl)) ?_
                            try go_wp2
                            go_meet
                            case rel => exact ⟨_, ((t539 != (rd t519 x12_2))), (by first | rfl | (simp; done) | (simp [*]; done)), H', ⟨by have := HJ6.out; have := HK2.out; have := HJ30.out; have := HJ51.out; first | omega | exact Nat.le_refl _⟩, ⟨by (with_reducible repeat (first | apply Kd.R_alloc | apply Kd.R_drewN | apply Kd.R_drew)); exact HO_7.out⟩, ⟨by (with_reducible repeat (first | apply Kd.R_alloc | apply Kd.R_drewN | apply Kd.R_drew)); exact HO_523002.out⟩, ⟨by (with_reducible repeat (first | refine blk_drewN ?_ _ | refine blk_drew ?_ | refine blk_alloc ?_ _)); exact BK515.out⟩, ⟨by (with_reducible repeat (first | refine blk_drewN ?_ _ | refine blk_drew ?_ | refine blk_alloc ?_ _)); exact BK522.out⟩, ⟨by (with_reducible repeat (first | refine blk_drewN ?_ _ | refine blk_drew ?_ | refine blk_alloc ?_ _)); exact BK530.out⟩, ⟨by (with_reducible repeat (first | refine blk_drewN ?_ _ | refine blk_drew ?_ | refine blk_alloc ?_ _)); exact BK532.out⟩, ⟨by (with_reducible repeat (first | refine blk_drewN ?_ _ | refine blk_drew ?_ | refine blk_alloc ?_ _)); exact BK538.out⟩, ⟨by (with_reducible repeat (first | refine blk_drewN ?_ _ | refine blk_drew ?_ | refine blk_alloc ?_ _)); exact BK542.out⟩, ⟨by repeat (first | (with_reducible first | exact HB.out | apply below_alloc | apply pw_below_drewN | apply below_drew1 | refine below_set ?_ (Aside0.out (by assumption))) | exact HB.out)⟩⟩
                          · rw [if_neg c97] at H
                            exact absurd H (by simp)
                        · rw [if_neg c96] at H
                          exact absurd H (by simp)
                    · replace c93 := Bool.eq_false_iff.mpr c93
                      subst c93
                      have H1 : (partitalaw05_MeterBeats.j4 kj51 false t516 t523 x11_2 x12_2 false t517 t518 t519 t527 t528 t539 t540) = some r := by rw [if_neg (show ¬ (false = true) by decide)] at H; exact H
                      clear H
                      have H := H1
                      clear H1
                      have H' := Aside0.mk H
                      clear H
                      try go_wp2
                      have n0_ := Aside0.mk (Kd.R_drew HO_7.out)
                      have n1_ := Aside0.mk (Kd.R_drew HO_523002.out)
                      have n2_ := Aside0.mk (blk_drew BK515.out)
                      have n3_ := Aside0.mk (blk_drew BK522.out)
                      have n4_ := Aside0.mk (blk_drew BK530.out)
                      have n5_ := Aside0.mk (blk_drew BK532.out)
                      have n6_ := Aside0.mk (blk_drew BK538.out)
                      have n7_ := Aside0.mk (blk_drew BK542.out)
                      have n8_ := Aside0.mk (below_drew1 HB.out)
                      clear HO_7
                      clear HO_523002
                      clear BK515
                      clear BK522
                      clear BK530
                      clear BK532
                      clear BK538
                      clear BK542
                      clear HB
                      have HO_7 := n0_
                      have HO_523002 := n1_
                      have BK515 := n2_
                      have BK522 := n3_
                      have BK530 := n4_
                      have BK532 := n5_
                      have BK538 := n6_
                      have BK542 := n7_
                      have HB := n8_
                      clear n0_ n1_ n2_ n3_ n4_ n5_ n6_ n7_ n8_
                      refine start_ (n := 18) (S := fun w' => True) (ds := []) #[false, false, false, false, false, false, false, false, false, false, false, false, false, false, false, false, false, false] (by kernel_rfl) rfl rfl trivial (fun hHeld => ?_); refine with_tabW partitalaw05_MeterBeats.tab18 partitalaw05_MeterBeats.bits18 (fun HT_ HW_ => ?_)
                      generalize wc.drew = w99 at HO_7 HO_523002 BK515 BK522 BK530 BK532 BK538 BK542 HB hHeld ⊢
                      refine pure_ (i := 0) (N := some 100) (v := ?_) (a' := ?_) #[true, false, false, false, false, false, false, false, false, false, false, false, false, false, false, false, false, false] rfl rfl (any_of HT_.out (by kernel_rfl)) (fun _ _ _ h => h) (Or.inl ⟨by rfl, ?_⟩) ?_ ?_
                      rotate_left
                      · intro w'
                        go_simp
                        with_reducible rfl
                      rotate_left
                      · simp only [Act.put, qa_, qz_, qs_, i64_w, i32_w]
                        rfl
                      refine pure_ (i := 1) (N := some 101) (v := ?_) (a' := ?_) #[true, true, false, false, false, false, false, false, false, false, false, false, false, false, false, false, false, false] rfl rfl (any_of HT_.out (by kernel_rfl)) (fun _ _ _ h => h) (Or.inl ⟨by rfl, ?_⟩) ?_ ?_
                      rotate_left
                      · intro w'
                        go_simp
                        with_reducible rfl
                      rotate_left
                      · simp only [Act.put, qa_, qz_, qs_, i64_w, i32_w]
                        rfl
                      refine pure_ (i := 2) (N := some 102) (v := undef) (a' := ?_) #[true, true, true, false, false, false, false, false, false, false, false, false, false, false, false, false, false, false] rfl rfl (any_of HT_.out (by kernel_rfl)) (fun _ _ _ h => h) (Or.inr ⟨by rfl, rfl⟩) ?_ ?_
                      rotate_left
                      · simp only [Act.put, qa_, qz_, qs_, i64_w, i32_w]
                        rfl
                      refine pure_ (i := 3) (N := some 103) (v := undef) (a' := ?_) #[true, true, true, true, false, false, false, false, false, false, false, false, false, false, false, false, false, false] rfl rfl (any_of HT_.out (by kernel_rfl)) (fun _ _ _ h => h) (Or.inr ⟨by rfl, rfl⟩) ?_ ?_
                      rotate_left
                      · simp only [Act.put, qa_, qz_, qs_, i64_w, i32_w]
                        rfl
                      refine pure_ (i := 4) (N := some 104) (v := undef) (a' := ?_) #[true, true, true, true, true, false, false, false, false, false, false, false, false, false, false, false, false, false] rfl rfl (any_of HT_.out (by kernel_rfl)) (fun _ _ _ h => h) (Or.inr ⟨by rfl, rfl⟩) ?_ ?_
                      rotate_left
                      · simp only [Act.put, qa_, qz_, qs_, i64_w, i32_w]
                        rfl
                      refine pure_ (i := 5) (N := some 105) (v := undef) (a' := ?_) #[true, true, true, true, true, true, false, false, false, false, false, false, false, false, false, false, false, false] rfl rfl (any_of HT_.out (by kernel_rfl)) (fun _ _ _ h => h) (Or.inr ⟨by rfl, rfl⟩) ?_ ?_
                      rotate_left
                      · simp only [Act.put, qa_, qz_, qs_, i64_w, i32_w]
                        rfl
                      refine pure_ (i := 6) (N := some 106) (v := undef) (a' := ?_) #[true, true, true, true, true, true, true, false, false, false, false, false, false, false, false, false, false, false] rfl rfl (any_of HT_.out (by kernel_rfl)) (fun _ _ _ h => h) (Or.inr ⟨by rfl, rfl⟩) ?_ ?_
                      rotate_left
                      · simp only [Act.put, qa_, qz_, qs_, i64_w, i32_w]
                        rfl
                      refine pure_ (i := 7) (N := some 107) (v := undef) (a' := ?_) #[true, true, true, true, true, true, true, true, false, false, false, false, false, false, false, false, false, false] rfl rfl (any_of HT_.out (by kernel_rfl)) (fun _ _ _ h => h) (Or.inr ⟨by rfl, rfl⟩) ?_ ?_
                      rotate_left
                      · simp only [Act.put, qa_, qz_, qs_, i64_w, i32_w]
                        rfl
                      refine pure_ (i := 8) (N := some 108) (v := undef) (a' := ?_) #[true, true, true, true, true, true, true, true, true, false, false, false, false, false, false, false, false, false] rfl rfl (any_of HT_.out (by kernel_rfl)) (fun _ _ _ h => h) (Or.inr ⟨by rfl, rfl⟩) ?_ ?_
                      rotate_left
                      · simp only [Act.put, qa_, qz_, qs_, i64_w, i32_w]
                        rfl
                      refine pure_ (i := 9) (N := some 109) (v := undef) (a' := ?_) #[true, true, true, true, true, true, true, true, true, true, false, false, false, false, false, false, false, false] rfl rfl (any_of HT_.out (by kernel_rfl)) (fun _ _ _ h => h) (Or.inr ⟨by rfl, rfl⟩) ?_ ?_
                      rotate_left
                      · simp only [Act.put, qa_, qz_, qs_, i64_w, i32_w]
                        rfl
                      refine pure_ (i := 10) (N := some 110) (v := undef) (a' := ?_) #[true, true, true, true, true, true, true, true, true, true, true, false, false, false, false, false, false, false] rfl rfl (any_of HT_.out (by kernel_rfl)) (fun _ _ _ h => h) (Or.inr ⟨by rfl, rfl⟩) ?_ ?_
                      rotate_left
                      · simp only [Act.put, qa_, qz_, qs_, i64_w, i32_w]
                        rfl
                      refine pure_ (i := 11) (N := some 111) (v := undef) (a' := ?_) #[true, true, true, true, true, true, true, true, true, true, true, true, false, false, false, false, false, false] rfl rfl (any_of HT_.out (by kernel_rfl)) (fun _ _ _ h => h) (Or.inr ⟨by rfl, rfl⟩) ?_ ?_
                      rotate_left
                      · simp only [Act.put, qa_, qz_, qs_, i64_w, i32_w]
                        rfl
                      refine pure_ (i := 12) (N := some 112) (v := undef) (a' := ?_) #[true, true, true, true, true, true, true, true, true, true, true, true, true, false, false, false, false, false] rfl rfl (any_of HT_.out (by kernel_rfl)) (fun _ _ _ h => h) (Or.inr ⟨by rfl, rfl⟩) ?_ ?_
                      rotate_left
                      · simp only [Act.put, qa_, qz_, qs_, i64_w, i32_w]
                        rfl
                      refine pure_ (i := 13) (N := some 113) (v := undef) (a' := ?_) #[true, true, true, true, true, true, true, true, true, true, true, true, true, true, false, false, false, false] rfl rfl (any_of HT_.out (by kernel_rfl)) (fun _ _ _ h => h) (Or.inr ⟨by rfl, rfl⟩) ?_ ?_
                      rotate_left
                      · simp only [Act.put, qa_, qz_, qs_, i64_w, i32_w]
                        rfl
                      refine pure_ (i := 14) (N := some 114) (v := undef) (a' := ?_) #[true, true, true, true, true, true, true, true, true, true, true, true, true, true, true, false, false, false] rfl rfl (any_of HT_.out (by kernel_rfl)) (fun _ _ _ h => h) (Or.inr ⟨by rfl, rfl⟩) ?_ ?_
                      rotate_left
                      · simp only [Act.put, qa_, qz_, qs_, i64_w, i32_w]
                        rfl
                      refine pure_ (i := 15) (N := some 115) (v := undef) (a' := ?_) #[true, true, true, true, true, true, true, true, true, true, true, true, true, true, true, true, false, false] rfl rfl (any_of HT_.out (by kernel_rfl)) (fun _ _ _ h => h) (Or.inr ⟨by rfl, rfl⟩) ?_ ?_
                      rotate_left
                      · simp only [Act.put, qa_, qz_, qs_, i64_w, i32_w]
                        rfl
                      refine pure_ (i := 16) (N := some 116) (v := undef) (a' := ?_) #[true, true, true, true, true, true, true, true, true, true, true, true, true, true, true, true, true, false] rfl rfl (any_of HT_.out (by kernel_rfl)) (fun _ _ _ h => h) (Or.inr ⟨by rfl, rfl⟩) ?_ ?_
                      rotate_left
                      · simp only [Act.put, qa_, qz_, qs_, i64_w, i32_w]
                        rfl
                      refine pure_ (i := 17) (N := some 117) (v := ?_) (a' := ?_) #[true, true, true, true, true, true, true, true, true, true, true, true, true, true, true, true, true, true] rfl rfl (any_of HT_.out (by kernel_rfl)) (fun _ _ _ h => h) (Or.inl ⟨by rfl, ?_⟩) ?_ ?_
                      rotate_left
                      · intro w'
                        go_simp
                        with_reducible rfl
                      rotate_left
                      · simp only [Act.put, qa_, qz_, qs_, i64_w, i32_w]
                        rfl
                      refine done_ (done_of HT_.out (by kernel_rfl)) ?_
                      try go_wp2
                      go_meet
                      case rel => exact ⟨_, (false), (by first | rfl | (simp; done) | (simp [*]; done)), H', ⟨by have := HJ6.out; have := HK2.out; have := HJ30.out; have := HJ51.out; first | omega | exact Nat.le_refl _⟩, ⟨by (with_reducible repeat (first | apply Kd.R_alloc | apply Kd.R_drewN | apply Kd.R_drew)); exact HO_7.out⟩, ⟨by (with_reducible repeat (first | apply Kd.R_alloc | apply Kd.R_drewN | apply Kd.R_drew)); exact HO_523002.out⟩, ⟨by (with_reducible repeat (first | refine blk_drewN ?_ _ | refine blk_drew ?_ | refine blk_alloc ?_ _)); exact BK515.out⟩, ⟨by (with_reducible repeat (first | refine blk_drewN ?_ _ | refine blk_drew ?_ | refine blk_alloc ?_ _)); exact BK522.out⟩, ⟨by (with_reducible repeat (first | refine blk_drewN ?_ _ | refine blk_drew ?_ | refine blk_alloc ?_ _)); exact BK530.out⟩, ⟨by (with_reducible repeat (first | refine blk_drewN ?_ _ | refine blk_drew ?_ | refine blk_alloc ?_ _)); exact BK532.out⟩, ⟨by (with_reducible repeat (first | refine blk_drewN ?_ _ | refine blk_drew ?_ | refine blk_alloc ?_ _)); exact BK538.out⟩, ⟨by (with_reducible repeat (first | refine blk_drewN ?_ _ | refine blk_drew ?_ | refine blk_alloc ?_ _)); exact BK542.out⟩, ⟨by repeat (first | (with_reducible first | exact HB.out | apply below_alloc | apply pw_below_drewN | apply below_drew1 | refine below_set ?_ (Aside0.out (by assumption))) | exact HB.out)⟩⟩
                   case rest =>
                    clear HC92
                    try clear p2
                    try clear p5
                    try clear q5
                    try clear hx5
                    try clear c8
                    try clear c9
                    try clear p53
                    try clear q53
                    try clear hx53
                    try clear p54
                    try clear q54
                    try clear hx54
                    try clear c82
                    try clear c83
                    try clear c85
                    try clear c86
                    try clear c87
                    try clear c88
                    try clear c89
                    try clear c91
                    try clear c93
                    try clear c94
                    try clear c94b0
                    try clear c96
                    try clear c96b0
                    try clear c97
                    try clear c97b0
                    try clear hcz10_0
                    try clear hcz10_1
                    try clear hcz10_2
                    try clear hcz14_0
                    try clear hcz14_1
                    try clear hcz14_2
                    try clear hcz17_0
                    try clear hcz17_1
                    try clear hcz17_2
                    try clear hcz22_0
                    try clear hcz22_1
                    try clear hcz35_0
                    try clear hcz35_1
                    try clear hcz40_0
                    try clear hcz40_1
                    try clear hcz47_0
                    try clear hcz47_1
                    try clear hcz63_0
                    try clear hcz63_1
                    try clear hcz67_0
                    try clear hcz67_1
                    try clear hcz67_2
                    try clear hcz75_0
                    try clear hcz75_1
                    try clear hcz84_0
                    try clear hcz84_1
                    try clear hcz90_0
                    try clear hcz90_1
                    try clear hfz10_0
                    try clear hfz10_1
                    try clear hfz10_2
                    try clear hfz14_0
                    try clear hfz14_1
                    try clear hfz14_2
                    try clear hfz17_0
                    try clear hfz17_1
                    try clear hfz17_2
                    try clear hfz22_0
                    try clear hfz22_1
                    try clear hfz35_0
                    try clear hfz35_1
                    try clear hfz40_0
                    try clear hfz40_1
                    try clear hfz47_0
                    try clear hfz47_1
                    try clear hfz63_0
                    try clear hfz63_1
                    try clear hfz67_0
                    try clear hfz67_1
                    try clear hfz67_2
                    try clear hfz75_0
                    try clear hfz75_1
                    try clear hfz84_0
                    try clear hfz84_1
                    try clear hfz90_0
                    try clear hfz90_1
                    try clear hx531_0
                    try clear hx531_1
                    try clear hx533_0
                    try clear hx533_1
                    try clear hx534_0
                    try clear hx534_1
                    try clear hx543_0
                    try clear p2
                    try clear p5
                    try clear p531
                    try clear p533
                    try clear p534
                    try clear p543
                    try clear q5
                    try clear q531
                    try clear q533
                    try clear q534
                    try clear q543
                    obtain ⟨kq, x117_91, rfl, HA, HJ91, HO_7, HO_523002, BK515, BK522, BK530, BK532, BK538, BK542, HB⟩ := hcut
                    cases kq with
                    | zero => exact absurd HA.out (by simp [partitalaw05_MeterBeats.j4])
                    | succ kj91 =>
                     have H := HA.out
                     clear HA
                     simp only [partitalaw05_MeterBeats.j4] at H
                     by_cases c100 : x117_91 = true
                     · subst c100
                       have H1 : none = some r := by rw [if_pos rfl] at H; exact H
                       cases H1
                     · replace c100 := Bool.eq_false_iff.mpr c100
                       subst c100
                       have H1 : (if a1 = true then (partitalaw05_MeterBeats.l0 kj91 a1 t516 t523 (wrap64 (x11_2 + t539)) (wrap64 (x12_2 + 1)) t517 t518 t519 t527 t528) else (if t539 = 1 then (partitalaw05_MeterBeats.l0 kj91 a1 t516 t523 (wrap64 (x11_2 + t539)) (wrap64 (x12_2 + 1)) t517 t518 t519 t527 t528) else (if t539 = 3 then (if (Int.tmod t517 3) = 0 then (if t517 < 6 then none else (if t518 < 8 then none else (partitalaw05_MeterBeats.l0 kj91 a1 t516 t523 (wrap64 (x11_2 + t539)) (wrap64 (x12_2 + 1)) t517 t518 t519 t527 t528))) else none) else none))) = some r := by rw [if_neg (show ¬ (false = true) by decide)] at H; exact H
                       clear H
                       have H := H1
                       clear H1
                       by_cases c101 : a1 = true
                       · subst c101
                         have H1 : (partitalaw05_MeterBeats.l0 kj91 true t516 t523 (wrap64 (x11_2 + t539)) (wrap64 (x12_2 + 1)) t517 t518 t519 t527 t528) = some r := by rw [if_pos rfl] at H; exact H
                         clear H
                         have H := H1
                         clear H1
                         have H' := Aside0.mk H
                         clear H
                         have hnb102 := NB542_515.out
                         have hnc102 := NB515_542.out
                         have hnb103 := NB542_522.out
                         have hnc103 := NB522_542.out
                         have hnb104 := NB542_530.out
                         have hnc104 := NB530_542.out
                         have hnb105 := NB542_532.out
                         have hnc105 := NB532_542.out
                         have hnb106 := NB542_538.out
                         have hnc106 := NB538_542.out
                         have hcz107_0 : wc.cell? ⟨gb542, 0, none⟩ = some (.int .i64 t539) := (blk_cell BK542.out 0).trans rfl
                         have hcz107_1 : wc.cell? ⟨gb542, 1, none⟩ = some (.int .i64 t540) := (blk_cell BK542.out 1).trans rfl
                         have hfz107_0 := blk_frozen BK542.out 0
                         have hfz107_1 := blk_frozen BK542.out 1
                         go_wp2
                         go_roundg kj91
                         case measure => have := HJ6.out; have := HK2.out; have := HJ30.out; have := HJ51.out; have := HJ91.out; omega
                         case rel => exact ⟨(wrap64 (x11_2 + t539)), (wrap64 (x12_2 + 1)), (by first | rfl | (simp; done) | (simp [*]; done)), (by first | rfl | (simp; done) | (simp [*]; done)), H', ⟨by have := HJ6.out; have := HK2.out; have := HJ30.out; have := HJ51.out; have := HJ91.out; omega⟩, ⟨by (with_reducible repeat (first | apply Kd.R_alloc | apply Kd.R_drewN | apply Kd.R_drew)); exact Kd.R_mono HO_7.out (fun _ hk => hk.1)⟩, ⟨by (with_reducible repeat (first | apply Kd.R_alloc | apply Kd.R_drewN | apply Kd.R_drew)); exact HO_523002.out⟩, ⟨by (with_reducible repeat (first | refine blk_drewN ?_ _ | refine blk_drew ?_ | refine blk_alloc ?_ _)); exact BK515.out⟩, ⟨by (with_reducible repeat (first | refine blk_drewN ?_ _ | refine blk_drew ?_ | refine blk_alloc ?_ _)); exact BK522.out⟩, ⟨by (with_reducible repeat (first | refine blk_drewN ?_ _ | refine blk_drew ?_ | refine blk_alloc ?_ _)); exact BK530.out⟩, ⟨by repeat (first | (with_reducible first | exact HB.out | apply below_alloc | apply pw_below_drewN | apply below_drew1 | refine below_set ?_ (Aside0.out (by assumption))) | exact HB.out)⟩⟩
                       · replace c101 := Bool.eq_false_iff.mpr c101
                         subst c101
                         have H1 : (if t539 = 1 then (partitalaw05_MeterBeats.l0 kj91 false t516 t523 (wrap64 (x11_2 + t539)) (wrap64 (x12_2 + 1)) t517 t518 t519 t527 t528) else (if t539 = 3 then (if (Int.tmod t517 3) = 0 then (if t517 < 6 then none else (if t518 < 8 then none else (partitalaw05_MeterBeats.l0 kj91 false t516 t523 (wrap64 (x11_2 + t539)) (wrap64 (x12_2 + 1)) t517 t518 t519 t527 t528))) else none) else none)) = some r := by rw [if_neg (show ¬ (false = true) by decide)] at H; exact H
                         clear H
                         have H := H1
                         clear H1
                         by_cases c108 : t539 = 1
                         · rw [if_pos c108] at H
                           have c108b0 : (t539 == 1) = true := beq_iff_eq.mpr c108
                           have c108b1 : (t539 != 1) = false := bne_eq_false_iff_eq.mpr c108
                           clear c108
                           have H' := Aside0.mk H
                           clear H
                           have hnb109 := NB542_515.out
                           have hnc109 := NB515_542.out
                           have hnb110 := NB542_522.out
                           have hnc110 := NB522_542.out
                           have hnb111 := NB542_530.out
                           have hnc111 := NB530_542.out
                           have hnb112 := NB542_532.out
                           have hnc112 := NB532_542.out
                           have hnb113 := NB542_538.out
                           have hnc113 := NB538_542.out
                           have hcz114_0 : wc.cell? ⟨gb542, 0, none⟩ = some (.int .i64 t539) := (blk_cell BK542.out 0).trans rfl
                           have hcz114_1 : wc.cell? ⟨gb542, 1, none⟩ = some (.int .i64 t540) := (blk_cell BK542.out 1).trans rfl
                           have hfz114_0 := blk_frozen BK542.out 0
                           have hfz114_1 := blk_frozen BK542.out 1
                           go_wp2
                           go_roundg kj91
                           case measure => have := HJ6.out; have := HK2.out; have := HJ30.out; have := HJ51.out; have := HJ91.out; omega
                           case rel => exact ⟨(wrap64 (x11_2 + t539)), (wrap64 (x12_2 + 1)), (by first | rfl | (simp; done) | (simp [*]; done)), (by first | rfl | (simp; done) | (simp [*]; done)), H', ⟨by have := HJ6.out; have := HK2.out; have := HJ30.out; have := HJ51.out; have := HJ91.out; omega⟩, ⟨by (with_reducible repeat (first | apply Kd.R_alloc | apply Kd.R_drewN | apply Kd.R_drew)); exact Kd.R_mono HO_7.out (fun _ hk => hk.1)⟩, ⟨by (with_reducible repeat (first | apply Kd.R_alloc | apply Kd.R_drewN | apply Kd.R_drew)); exact HO_523002.out⟩, ⟨by (with_reducible repeat (first | refine blk_drewN ?_ _ | refine blk_drew ?_ | refine blk_alloc ?_ _)); exact BK515.out⟩, ⟨by (with_reducible repeat (first | refine blk_drewN ?_ _ | refine blk_drew ?_ | refine blk_alloc ?_ _)); exact BK522.out⟩, ⟨by (with_reducible repeat (first | refine blk_drewN ?_ _ | refine blk_drew ?_ | refine blk_alloc ?_ _)); exact BK530.out⟩, ⟨by repeat (first | (with_reducible first | exact HB.out | apply below_alloc | apply pw_below_drewN | apply below_drew1 | refine below_set ?_ (Aside0.out (by assumption))) | exact HB.out)⟩⟩
                         · rw [if_neg c108] at H
                           have c108b0 : (t539 == 1) = false := beq_eq_false_iff_ne.mpr c108
                           have c108b1 : (t539 != 1) = true := bne_iff_ne.mpr c108
                           by_cases c115 : t539 = 3
                           · rw [if_pos c115] at H
                             have c115b0 : (t539 == 3) = true := beq_iff_eq.mpr c115
                             have c115b1 : (t539 != 3) = false := bne_eq_false_iff_eq.mpr c115
                             clear c115
                             by_cases c116 : (Int.tmod t517 3) = 0
                             · rw [if_pos c116] at H
                               have c116b0 : ((Int.tmod t517 3) == 0) = true := beq_iff_eq.mpr c116
                               have c116b1 : ((Int.tmod t517 3) != 0) = false := bne_eq_false_iff_eq.mpr c116
                               clear c116
                               by_cases c117 : t517 < 6
                               · rw [if_pos c117] at H
                                 cases H
                               · rw [if_neg c117] at H
                                 have c117b0 : decide (t517 < 6) = false := decide_eq_false c117
                                 clear c117
                                 by_cases c129 : t518 < 8
                                 · rw [if_pos c129] at H
                                   cases H
                                 · rw [if_neg c129] at H
                                   have c129b0 : decide (t518 < 8) = false := decide_eq_false c129
                                   clear c129
                                   have H' := Aside0.mk H
                                   clear H
                                   have hnb141 := NB542_515.out
                                   have hnc141 := NB515_542.out
                                   have hnb142 := NB542_522.out
                                   have hnc142 := NB522_542.out
                                   have hnb143 := NB542_530.out
                                   have hnc143 := NB530_542.out
                                   have hnb144 := NB542_532.out
                                   have hnc144 := NB532_542.out
                                   have hnb145 := NB542_538.out
                                   have hnc145 := NB538_542.out
                                   have hcz146_0 : wc.cell? ⟨gb542, 0, none⟩ = some (.int .i64 t539) := (blk_cell BK542.out 0).trans rfl
                                   have hcz146_1 : wc.cell? ⟨gb542, 1, none⟩ = some (.int .i64 t540) := (blk_cell BK542.out 1).trans rfl
                                   have hfz146_0 := blk_frozen BK542.out 0
                                   have hfz146_1 := blk_frozen BK542.out 1
                                   have hnb147 := NB522_515.out
                                   have hnc147 := NB515_522.out
                                   have hnb148 := NB522_530.out
                                   have hnc148 := NB530_522.out
                                   have hnb149 := NB522_532.out
                                   have hnc149 := NB532_522.out
                                   have hnb150 := NB522_538.out
                                   have hnc150 := NB538_522.out
                                   have hcz151_0 : wc.cell? ⟨gb522, 0, none⟩ = some (.int .i64 t517) := (blk_cell BK522.out 0).trans rfl
                                   have hcz151_1 : wc.cell? ⟨gb522, 1, none⟩ = some (.int .i64 t518) := (blk_cell BK522.out 1).trans rfl
                                   have hcz151_2 : wc.cell? ⟨gb522, 2, none⟩ = some (.slice Ao15 t519.length co15) := (blk_cell BK522.out 2).trans rfl
                                   have hfz151_0 := blk_frozen BK522.out 0
                                   have hfz151_1 := blk_frozen BK522.out 1
                                   have hfz151_2 := blk_frozen BK522.out 2
                                   go_wp2
                                   go_roundg kj91
                                   case measure => have := HJ6.out; have := HK2.out; have := HJ30.out; have := HJ51.out; have := HJ91.out; omega
                                   case rel => exact ⟨(wrap64 (x11_2 + t539)), (wrap64 (x12_2 + 1)), (by first | rfl | (simp; done) | (simp [*]; done)), (by first | rfl | (simp; done) | (simp [*]; done)), H', ⟨by have := HJ6.out; have := HK2.out; have := HJ30.out; have := HJ51.out; have := HJ91.out; omega⟩, ⟨by (with_reducible repeat (first | apply Kd.R_alloc | apply Kd.R_drewN | apply Kd.R_drew)); exact Kd.R_mono HO_7.out (fun _ hk => hk.1)⟩, ⟨by (with_reducible repeat (first | apply Kd.R_alloc | apply Kd.R_drewN | apply Kd.R_drew)); exact HO_523002.out⟩, ⟨by (with_reducible repeat (first | refine blk_drewN ?_ _ | refine blk_drew ?_ | refine blk_alloc ?_ _)); exact BK515.out⟩, ⟨by (with_reducible repeat (first | refine blk_drewN ?_ _ | refine blk_drew ?_ | refine blk_alloc ?_ _)); exact BK522.out⟩, ⟨by (with_reducible repeat (first | refine blk_drewN ?_ _ | refine blk_drew ?_ | refine blk_alloc ?_ _)); exact BK530.out⟩, ⟨by repeat (first | (with_reducible first | exact HB.out | apply below_alloc | apply pw_below_drewN | apply below_drew1 | refine below_set ?_ (Aside0.out (by assumption))) | exact HB.out)⟩⟩
                             · rw [if_neg c116] at H
                               cases H
                           · rw [if_neg c115] at H
                             cases H
             · rw [if_neg c49] at H
               exact absurd H (by simp)
           · rw [if_neg c48] at H
             exact absurd H (by simp)
       · rw [if_neg c30] at H
         have c30b0 : decide (x12_2 < (t523.length : Int)) = false := decide_eq_false c30
         clear c30
         by_cases c169 : t516 = true
         · subst c169
           have H1 : (if x11_2 = t517 then (if a1 = true then (some ((t523.length : Int) == (t519.length : Int))) else (some true)) else none) = some r := by rw [if_pos rfl] at H; exact H
           clear H
           have H := H1
           clear H1
           by_cases c170 : x11_2 = t517
           · rw [if_pos c170] at H
             have c170b0 : (x11_2 == t517) = true := beq_iff_eq.mpr c170
             have c170b1 : (x11_2 != t517) = false := bne_eq_false_iff_eq.mpr c170
             clear c170
             by_cases c171 : a1 = true
             · subst c171
               have H1 : (some ((t523.length : Int) == (t519.length : Int))) = some r := by rw [if_pos rfl] at H; exact H
               clear H
               have H := H1
               clear H1
               obtain rfl := Option.some.inj H
               obtain ⟨Ao172, co172, eo172⟩ := Kd.R_slice HO_7.out
               subst eo172
               have hnb173 := NB522_515.out
               have hnc173 := NB515_522.out
               have hnb174 := NB522_530.out
               have hnc174 := NB530_522.out
               have hcz175_0 : wr.cell? ⟨gb522, 0, none⟩ = some (.int .i64 t517) := (blk_cell BK522.out 0).trans rfl
               have hcz175_1 : wr.cell? ⟨gb522, 1, none⟩ = some (.int .i64 t518) := (blk_cell BK522.out 1).trans rfl
               have hcz175_2 : wr.cell? ⟨gb522, 2, none⟩ = some (.slice Ao15 t519.length co15) := (blk_cell BK522.out 2).trans rfl
               have hfz175_0 := blk_frozen BK522.out 0
               have hfz175_1 := blk_frozen BK522.out 1
               have hfz175_2 := blk_frozen BK522.out 2
               go_wp2
               go_ret
               exact ⟨by first | rfl | (simp [errW_none, errW_some] <;> rfl) | (simp [*, errW_none, errW_some] <;> rfl), by repeat (first | (with_reducible first | exact HB.out | apply below_alloc | apply pw_below_drewN | apply below_drew1 | refine below_set ?_ (Aside0.out (by assumption))) | exact HB.out)⟩
             · replace c171 := Bool.eq_false_iff.mpr c171
               subst c171
               have H1 : (some true) = some r := by rw [if_neg (show ¬ (false = true) by decide)] at H; exact H
               clear H
               have H := H1
               clear H1
               obtain rfl := Option.some.inj H
               obtain ⟨Ao176, co176, eo176⟩ := Kd.R_slice HO_7.out
               subst eo176
               have hnb177 := NB522_515.out
               have hnc177 := NB515_522.out
               have hnb178 := NB522_530.out
               have hnc178 := NB530_522.out
               have hcz179_0 : wr.cell? ⟨gb522, 0, none⟩ = some (.int .i64 t517) := (blk_cell BK522.out 0).trans rfl
               have hcz179_1 : wr.cell? ⟨gb522, 1, none⟩ = some (.int .i64 t518) := (blk_cell BK522.out 1).trans rfl
               have hcz179_2 : wr.cell? ⟨gb522, 2, none⟩ = some (.slice Ao15 t519.length co15) := (blk_cell BK522.out 2).trans rfl
               have hfz179_0 := blk_frozen BK522.out 0
               have hfz179_1 := blk_frozen BK522.out 1
               have hfz179_2 := blk_frozen BK522.out 2
               go_wp2
               go_ret
               exact ⟨by first | rfl | (simp [errW_none, errW_some] <;> rfl) | (simp [*, errW_none, errW_some] <;> rfl), by repeat (first | (with_reducible first | exact HB.out | apply below_alloc | apply pw_below_drewN | apply below_drew1 | refine below_set ?_ (Aside0.out (by assumption))) | exact HB.out)⟩
           · rw [if_neg c170] at H
             cases H
         · replace c169 := Bool.eq_false_iff.mpr c169
           subst c169
           have H1 : none = some r := by rw [if_neg (show ¬ (false = true) by decide)] at H; exact H
           cases H1
end Go.Proofs.Ytbncdlnnjhadgaa.Q
