-- Written by a program of this session (myprint.py), function by function.
import Derived.Test.YtbncdlnnjhadgaaQ0
import Derived.Test.YtbncdlnnjhadgaaQ1
import Derived.Test.YtbncdlnnjhadgaaQ3
import Derived.Test.YtbncdlnnjhadgaaQ4
import Derived.Test.YtbncdlnnjhadgaaQ5
import Derived.Test.YtbncdlnnjhadgaaQ6
namespace Go.Proofs.Ytbncdlnnjhadgaa.Q
open Go.RowKit Go.Proofs.YtbncdlnnjhadgaaW.PrintWords Go.Proofs.YtbncdlnnjhadgaaW.PrintLast Go.Proofs.YtbncdlnnjhadgaaW.PrintMore
attribute [local go_sem] max2_int min2_int max_two min_two max_three min_three max_four min_four   -- for this text's walks alone
set_option linter.unusedVariables false
set_option linter.unusedSimpArgs false

attribute [local go_sem high] eqA26
/-! ### partitalaw05_MeterSame: function 8 -/
def partitalaw05_MeterSame.j0 : Nat → Bool → Int → Int → Bool → Int → Int → List Int → Int → Int → List Int → Int → Int → Int → Int → Option (Bool)
 | 0, _, _, _, _, _, _, _, _, _, _, _, _, _, _ => none
 | k + 1, x5, x10, x12, x57, x467000, x467001, x467002, x473000, x473001, x473002, x483000, x483001, x487000, x487001 => if x57 = true then none else (if ([] : List Int).length + x473002.length < 17592186044416 then ((some (([] : List Int) ++ x473002 : List Int)).bind fun y493 => (if y493.length < 17592186044416 then ((some (y493 ++ [1] : List Int)).bind fun y496 => ((some (([] : List Int) ++ x473002 : List Int)).bind fun y500 => (if y500.length < 17592186044416 then ((meter_Length.f k x473000 x473001 y496).bind fun bt506 => (if x5 = true then (if x10 = 0 then (if x12 = 0 then (if (x483000 == x487000 && (x483001 == x487001)) = true then ((meter_Right.f k x467000 x467001 x467002).bind fun t510 => (if t510 = true then ((meter_Right.f k x473000 x473001 x473002).bind fun t511 => (if t511 = true then ((meter_Right.f k x473000 x473001 y496).bind fun t512 => (if t512 = true then none else ((meter_Right.f k x473000 x473001 (y500 ++ [0])).bind fun t513 => (if t513 = true then none else (if bt506.2.2 = 50 then ((meter_Same.f k x473000 x473001 x473002 x473000 x473001 y496).bind fun t514 => (some (!t514))) else none))))) else none)) else none)) else none) else none) else none) else none)) else (none)))) else (none))) else (none))
def partitalaw05_MeterSame.f (k : Nat) (a0_0 : Int) (a0_1 : Int) (l0_2 : List Int) (a1_0 : Int) (a1_1 : Int) (l1_2 : List Int) : Option (Bool) := (partitalaw05_awake.f k).bind fun t460 => ((partitalaw05_Meter.f k a0_0 a0_1 l0_2 false).bind fun bt461 => ((partitalaw05_Meter.f k a0_0 a0_1 l0_2 true).bind fun bt467 => ((partitalaw05_Meter.f k a1_0 a1_1 l1_2 true).bind fun bt473 => ((meter_Length.f k bt461.1 bt461.2.1 bt461.2.2).bind fun bt479 => ((meter_Length.f k bt467.1 bt467.2.1 bt467.2.2).bind fun bt483 => ((meter_Same.f k bt461.1 bt461.2.1 bt461.2.2 bt461.1 bt461.2.1 bt461.2.2).bind fun t487 => (if t487 = true then ((meter_Same.f k bt467.1 bt467.2.1 bt467.2.2 bt467.1 bt467.2.1 bt467.2.2).bind fun t488 => (if t488 = true then ((meter_Same.f k bt461.1 bt461.2.1 bt461.2.2 bt467.1 bt467.2.1 bt467.2.2).bind fun t489 => (if t489 = true then (partitalaw05_MeterSame.j0 k t460 bt479.2.2 bt483.2.2 true bt461.1 bt461.2.1 bt461.2.2 bt467.1 bt467.2.1 bt467.2.2 bt479.1 bt479.2.1 bt483.1 bt483.2.1) else ((meter_Same.f k bt467.1 bt467.2.1 bt467.2.2 bt473.1 bt473.2.1 bt473.2.2).bind fun t490 => ((meter_Same.f k bt473.1 bt473.2.1 bt473.2.2 bt467.1 bt467.2.1 bt467.2.2).bind fun t491 => (partitalaw05_MeterSame.j0 k t460 bt479.2.2 bt483.2.2 (t490 != t491) bt461.1 bt461.2.1 bt461.2.2 bt467.1 bt467.2.1 bt467.2.2 bt479.1 bt479.2.1 bt483.1 bt483.2.1))))) else (partitalaw05_MeterSame.j0 k t460 bt479.2.2 bt483.2.2 true bt461.1 bt461.2.1 bt461.2.2 bt467.1 bt467.2.1 bt467.2.2 bt479.1 bt479.2.1 bt483.1 bt483.2.1))) else (partitalaw05_MeterSame.j0 k t460 bt479.2.2 bt483.2.2 true bt461.1 bt461.2.1 bt461.2.2 bt467.1 bt467.2.1 bt467.2.2 bt479.1 bt479.2.1 bt483.1 bt483.2.1))))))))
theorem partitalaw05_MeterSame.mono_l : ∀ k, (∀ y0 y1 y2 y3 y4 y5 y6 y7 y8 y9 y10 y11 y12 y13, LeO (partitalaw05_MeterSame.j0 k y0 y1 y2 y3 y4 y5 y6 y7 y8 y9 y10 y11 y12 y13) (partitalaw05_MeterSame.j0 (k + 1) y0 y1 y2 y3 y4 y5 y6 y7 y8 y9 y10 y11 y12 y13))
 | 0 => fun _ _ _ _ _ _ _ _ _ _ _ _ _ _ r h => by simp [partitalaw05_MeterSame.j0] at h
 | k + 1 => by
  have ih0 := partitalaw05_MeterSame.mono_l k
  · intro y0 y1 y2 y3 y4 y5 y6 y7 y8 y9 y10 y11 y12 y13
    unfold partitalaw05_MeterSame.j0
    repeat' first
    | (with_reducible exact ih0 _ _ _ _ _ _ _ _ _ _ _ _ _ _)
    | (with_reducible exact meter_Length.mono _ _ _ _)
    | (with_reducible exact meter_Right.mono _ _ _ _)
    | (with_reducible exact meter_Same.mono _ _ _ _ _ _ _)
    | (with_reducible exact partitalaw05_Meter.mono _ _ _ _ _)
    | (with_reducible exact partitalaw05_awake.mono _)
    | (with_reducible exact LeO.refl _)
    | (with_reducible exact LeO.none _)
    | (with_reducible refine LeO.ite ?_ ?_)
    | (with_reducible refine LeO.bind ?_ (fun _ => ?_))
    | exact ih0 _ _ _ _ _ _ _ _ _ _ _ _ _ _
    | exact meter_Length.mono _ _ _ _
    | exact meter_Right.mono _ _ _ _
    | exact meter_Same.mono _ _ _ _ _ _ _
    | exact partitalaw05_Meter.mono _ _ _ _ _
    | exact partitalaw05_awake.mono _
    | exact LeO.none _
    | refine LeO.ite ?_ ?_
    | refine LeO.bind ?_ (fun _ => ?_)
theorem partitalaw05_MeterSame.mono : ∀ a0 a1 a2 a3 a4 a5 k, LeO (partitalaw05_MeterSame.f k a0 a1 a2 a3 a4 a5) (partitalaw05_MeterSame.f (k + 1) a0 a1 a2 a3 a4 a5) := by
 intro a0 a1 a2 a3 a4 a5 k
 have ih0 := partitalaw05_MeterSame.mono_l k
 unfold partitalaw05_MeterSame.f
 repeat' first
  | (with_reducible exact ih0 _ _ _ _ _ _ _ _ _ _ _ _ _ _)
  | (with_reducible exact meter_Length.mono _ _ _ _)
  | (with_reducible exact meter_Right.mono _ _ _ _)
  | (with_reducible exact meter_Same.mono _ _ _ _ _ _ _)
  | (with_reducible exact partitalaw05_Meter.mono _ _ _ _ _)
  | (with_reducible exact partitalaw05_awake.mono _)
  | (with_reducible exact LeO.refl _)
  | (with_reducible exact LeO.none _)
  | (with_reducible refine LeO.ite ?_ ?_)
  | (with_reducible refine LeO.bind ?_ (fun _ => ?_))
  | exact ih0 _ _ _ _ _ _ _ _ _ _ _ _ _ _
  | exact meter_Length.mono _ _ _ _
  | exact meter_Right.mono _ _ _ _
  | exact meter_Same.mono _ _ _ _ _ _ _
  | exact partitalaw05_Meter.mono _ _ _ _ _
  | exact partitalaw05_awake.mono _
  | exact LeO.none _
  | refine LeO.ite ?_ ?_
  | refine LeO.bind ?_ (fun _ => ?_)
def partitalaw05_MeterSame.T7 : Bool × List (List Nat × List Nat) := (true, [([], []), ([], []), ([0, 1], [0, 1]), ([2], [2]), ([3, 2], [3]), ([4], [4]), ([4], [4]), ([5, 6, 4, 4], [4, 5, 6]), ([7, 4], [4, 7]), ([4, 8], [4, 8]), ([9, 7], [9]), ([10], [10]), ([10], [10]), ([11, 12, 10, 10], [10, 11, 12]), ([10, 13], [10, 13]), ([14, 13], [14]), ([15], [15]), ([15], [15]), ([16, 17, 15, 15], [15, 16, 17]), ([15], [15]), ([15], [15]), ([19, 20, 18, 15], [15, 19, 20]), ([18, 21, 15], [15, 18, 21]), ([15, 22], [15, 22])])
def partitalaw05_MeterSame.B7 : List Nat := [0, 0, 3, 7, 15, 31, 31, 127, 255, 511, 1023, 2047, 2047, 8191, 16383, 32767, 65535, 65535, 262143, 65535, 65535, 2097151, 4194303, 8388607]
theorem partitalaw05_MeterSame.tab7 : rtab .any (opsOf Try.f8 7) = partitalaw05_MeterSame.T7 := by kernel_rfl
theorem partitalaw05_MeterSame.bits7 : waitsOk partitalaw05_MeterSame.T7.2 partitalaw05_MeterSame.B7 = true := by kernel_rfl
set_option maxHeartbeats 8000000 in
set_option maxRecDepth 100000 in
theorem partitalaw05_MeterSame.calls (k : Nat) (a0_0 : Int) (a0_1 : Int) (A0_2 : Option Addr) (c0_2 : Nat) (l0_2 : List Int) (a1_0 : Int) (a1_1 : Int) (A1_2 : Option Addr) (c1_2 : Nat) (l1_2 : List Int) (r : Bool) (w : World) (hr0_2 : Kd.C (Kd.int .i64) w A0_2 l0_2.length l0_2) (hc0_2 : l0_2.length ≤ c0_2) (hr1_2 : Kd.C (Kd.int .i64) w A1_2 l1_2.length l1_2) (hc1_2 : l1_2.length ≤ c1_2) (h : partitalaw05_MeterSame.f k a0_0 a0_1 l0_2 a1_0 a1_1 l1_2 = some r) :
 Calls Try.prog 8 #[.agg #[.int .i64 a0_0, .int .i64 a0_1, .slice A0_2 l0_2.length c0_2], .agg #[.int .i64 a1_0, .int .i64 a1_1, .slice A1_2 l1_2.length c1_2]] w fun e w' => e = .returned (.bool r) ∧ Below w.heap.size w w' := by
 have hu24 := Try.underlying24
 have hu26 := Try.underlying26
 have HR0_2 := Aside0.mk hr0_2
 have HC0_2 := Aside0.mk hc0_2
 clear hr0_2 hc0_2
 have HR1_2 := Aside0.mk hr1_2
 have HC1_2 := Aside0.mk hc1_2
 clear hr1_2 hc1_2
 have HB := Aside0.mk (Below.refl w.heap.size w)
 have H : ((partitalaw05_awake.f k).bind fun t460 => ((partitalaw05_Meter.f k a0_0 a0_1 l0_2 false).bind fun bt461 => ((partitalaw05_Meter.f k a0_0 a0_1 l0_2 true).bind fun bt467 => ((partitalaw05_Meter.f k a1_0 a1_1 l1_2 true).bind fun bt473 => ((meter_Length.f k bt461.1 bt461.2.1 bt461.2.2).bind fun bt479 => ((meter_Length.f k bt467.1 bt467.2.1 bt467.2.2).bind fun bt483 => ((meter_Same.f k bt461.1 bt461.2.1 bt461.2.2 bt461.1 bt461.2.1 bt461.2.2).bind fun t487 => (if t487 = true then ((meter_Same.f k bt467.1 bt467.2.1 bt467.2.2 bt467.1 bt467.2.1 bt467.2.2).bind fun t488 => (if t488 = true then ((meter_Same.f k bt461.1 bt461.2.1 bt461.2.2 bt467.1 bt467.2.1 bt467.2.2).bind fun t489 => (if t489 = true then (partitalaw05_MeterSame.j0 k t460 bt479.2.2 bt483.2.2 true bt461.1 bt461.2.1 bt461.2.2 bt467.1 bt467.2.1 bt467.2.2 bt479.1 bt479.2.1 bt483.1 bt483.2.1) else ((meter_Same.f k bt467.1 bt467.2.1 bt467.2.2 bt473.1 bt473.2.1 bt473.2.2).bind fun t490 => ((meter_Same.f k bt473.1 bt473.2.1 bt473.2.2 bt467.1 bt467.2.1 bt467.2.2).bind fun t491 => (partitalaw05_MeterSame.j0 k t460 bt479.2.2 bt483.2.2 (t490 != t491) bt461.1 bt461.2.1 bt461.2.2 bt467.1 bt467.2.1 bt467.2.2 bt479.1 bt479.2.1 bt483.1 bt483.2.1))))) else (partitalaw05_MeterSame.j0 k t460 bt479.2.2 bt483.2.2 true bt461.1 bt461.2.1 bt461.2.2 bt467.1 bt467.2.1 bt467.2.2 bt479.1 bt479.2.1 bt483.1 bt483.2.1))) else (partitalaw05_MeterSame.j0 k t460 bt479.2.2 bt483.2.2 true bt461.1 bt461.2.1 bt461.2.2 bt467.1 bt467.2.1 bt467.2.2 bt479.1 bt479.2.1 bt483.1 bt483.2.1))))))))) = some r := h
 clear h
 replace H := Option.bind_eq_some_iff.mp H
 obtain ⟨t460, A30, H⟩ := H
 replace H : ((partitalaw05_Meter.f k a0_0 a0_1 l0_2 false).bind fun bt461 => ((partitalaw05_Meter.f k a0_0 a0_1 l0_2 true).bind fun bt467 => ((partitalaw05_Meter.f k a1_0 a1_1 l1_2 true).bind fun bt473 => ((meter_Length.f k bt461.1 bt461.2.1 bt461.2.2).bind fun bt479 => ((meter_Length.f k bt467.1 bt467.2.1 bt467.2.2).bind fun bt483 => ((meter_Same.f k bt461.1 bt461.2.1 bt461.2.2 bt461.1 bt461.2.1 bt461.2.2).bind fun t487 => (if t487 = true then ((meter_Same.f k bt467.1 bt467.2.1 bt467.2.2 bt467.1 bt467.2.1 bt467.2.2).bind fun t488 => (if t488 = true then ((meter_Same.f k bt461.1 bt461.2.1 bt461.2.2 bt467.1 bt467.2.1 bt467.2.2).bind fun t489 => (if t489 = true then (partitalaw05_MeterSame.j0 k t460 bt479.2.2 bt483.2.2 true bt461.1 bt461.2.1 bt461.2.2 bt467.1 bt467.2.1 bt467.2.2 bt479.1 bt479.2.1 bt483.1 bt483.2.1) else ((meter_Same.f k bt467.1 bt467.2.1 bt467.2.2 bt473.1 bt473.2.1 bt473.2.2).bind fun t490 => ((meter_Same.f k bt473.1 bt473.2.1 bt473.2.2 bt467.1 bt467.2.1 bt467.2.2).bind fun t491 => (partitalaw05_MeterSame.j0 k t460 bt479.2.2 bt483.2.2 (t490 != t491) bt461.1 bt461.2.1 bt461.2.2 bt467.1 bt467.2.1 bt467.2.2 bt479.1 bt479.2.1 bt483.1 bt483.2.1))))) else (partitalaw05_MeterSame.j0 k t460 bt479.2.2 bt483.2.2 true bt461.1 bt461.2.1 bt461.2.2 bt467.1 bt467.2.1 bt467.2.2 bt479.1 bt479.2.1 bt483.1 bt483.2.1))) else (partitalaw05_MeterSame.j0 k t460 bt479.2.2 bt483.2.2 true bt461.1 bt461.2.1 bt461.2.2 bt467.1 bt467.2.1 bt467.2.2 bt479.1 bt479.2.1 bt483.1 bt483.2.1)))))))) = some r := H
 have A3 := Aside0.mk A30
 clear A30
 replace H := Option.bind_eq_some_iff.mp H
 obtain ⟨⟨t461, t462, t463⟩, A40, H⟩ := H
 replace H : ((partitalaw05_Meter.f k a0_0 a0_1 l0_2 true).bind fun bt467 => ((partitalaw05_Meter.f k a1_0 a1_1 l1_2 true).bind fun bt473 => ((meter_Length.f k t461 t462 t463).bind fun bt479 => ((meter_Length.f k bt467.1 bt467.2.1 bt467.2.2).bind fun bt483 => ((meter_Same.f k t461 t462 t463 t461 t462 t463).bind fun t487 => (if t487 = true then ((meter_Same.f k bt467.1 bt467.2.1 bt467.2.2 bt467.1 bt467.2.1 bt467.2.2).bind fun t488 => (if t488 = true then ((meter_Same.f k t461 t462 t463 bt467.1 bt467.2.1 bt467.2.2).bind fun t489 => (if t489 = true then (partitalaw05_MeterSame.j0 k t460 bt479.2.2 bt483.2.2 true t461 t462 t463 bt467.1 bt467.2.1 bt467.2.2 bt479.1 bt479.2.1 bt483.1 bt483.2.1) else ((meter_Same.f k bt467.1 bt467.2.1 bt467.2.2 bt473.1 bt473.2.1 bt473.2.2).bind fun t490 => ((meter_Same.f k bt473.1 bt473.2.1 bt473.2.2 bt467.1 bt467.2.1 bt467.2.2).bind fun t491 => (partitalaw05_MeterSame.j0 k t460 bt479.2.2 bt483.2.2 (t490 != t491) t461 t462 t463 bt467.1 bt467.2.1 bt467.2.2 bt479.1 bt479.2.1 bt483.1 bt483.2.1))))) else (partitalaw05_MeterSame.j0 k t460 bt479.2.2 bt483.2.2 true t461 t462 t463 bt467.1 bt467.2.1 bt467.2.2 bt479.1 bt479.2.1 bt483.1 bt483.2.1))) else (partitalaw05_MeterSame.j0 k t460 bt479.2.2 bt483.2.2 true t461 t462 t463 bt467.1 bt467.2.1 bt467.2.2 bt479.1 bt479.2.1 bt483.1 bt483.2.1))))))) = some r := H
 have A4 := Aside0.mk A40
 clear A40
 replace H := Option.bind_eq_some_iff.mp H
 obtain ⟨⟨t467, t468, t469⟩, A50, H⟩ := H
 replace H : ((partitalaw05_Meter.f k a1_0 a1_1 l1_2 true).bind fun bt473 => ((meter_Length.f k t461 t462 t463).bind fun bt479 => ((meter_Length.f k t467 t468 t469).bind fun bt483 => ((meter_Same.f k t461 t462 t463 t461 t462 t463).bind fun t487 => (if t487 = true then ((meter_Same.f k t467 t468 t469 t467 t468 t469).bind fun t488 => (if t488 = true then ((meter_Same.f k t461 t462 t463 t467 t468 t469).bind fun t489 => (if t489 = true then (partitalaw05_MeterSame.j0 k t460 bt479.2.2 bt483.2.2 true t461 t462 t463 t467 t468 t469 bt479.1 bt479.2.1 bt483.1 bt483.2.1) else ((meter_Same.f k t467 t468 t469 bt473.1 bt473.2.1 bt473.2.2).bind fun t490 => ((meter_Same.f k bt473.1 bt473.2.1 bt473.2.2 t467 t468 t469).bind fun t491 => (partitalaw05_MeterSame.j0 k t460 bt479.2.2 bt483.2.2 (t490 != t491) t461 t462 t463 t467 t468 t469 bt479.1 bt479.2.1 bt483.1 bt483.2.1))))) else (partitalaw05_MeterSame.j0 k t460 bt479.2.2 bt483.2.2 true t461 t462 t463 t467 t468 t469 bt479.1 bt479.2.1 bt483.1 bt483.2.1))) else (partitalaw05_MeterSame.j0 k t460 bt479.2.2 bt483.2.2 true t461 t462 t463 t467 t468 t469 bt479.1 bt479.2.1 bt483.1 bt483.2.1)))))) = some r := H
 have A5 := Aside0.mk A50
 clear A50
 replace H := Option.bind_eq_some_iff.mp H
 obtain ⟨⟨t473, t474, t475⟩, A60, H⟩ := H
 replace H : ((meter_Length.f k t461 t462 t463).bind fun bt479 => ((meter_Length.f k t467 t468 t469).bind fun bt483 => ((meter_Same.f k t461 t462 t463 t461 t462 t463).bind fun t487 => (if t487 = true then ((meter_Same.f k t467 t468 t469 t467 t468 t469).bind fun t488 => (if t488 = true then ((meter_Same.f k t461 t462 t463 t467 t468 t469).bind fun t489 => (if t489 = true then (partitalaw05_MeterSame.j0 k t460 bt479.2.2 bt483.2.2 true t461 t462 t463 t467 t468 t469 bt479.1 bt479.2.1 bt483.1 bt483.2.1) else ((meter_Same.f k t467 t468 t469 t473 t474 t475).bind fun t490 => ((meter_Same.f k t473 t474 t475 t467 t468 t469).bind fun t491 => (partitalaw05_MeterSame.j0 k t460 bt479.2.2 bt483.2.2 (t490 != t491) t461 t462 t463 t467 t468 t469 bt479.1 bt479.2.1 bt483.1 bt483.2.1))))) else (partitalaw05_MeterSame.j0 k t460 bt479.2.2 bt483.2.2 true t461 t462 t463 t467 t468 t469 bt479.1 bt479.2.1 bt483.1 bt483.2.1))) else (partitalaw05_MeterSame.j0 k t460 bt479.2.2 bt483.2.2 true t461 t462 t463 t467 t468 t469 bt479.1 bt479.2.1 bt483.1 bt483.2.1))))) = some r := H
 have A6 := Aside0.mk A60
 clear A60
 replace H := Option.bind_eq_some_iff.mp H
 obtain ⟨⟨t479, t480, t481⟩, A70, H⟩ := H
 replace H : ((meter_Length.f k t467 t468 t469).bind fun bt483 => ((meter_Same.f k t461 t462 t463 t461 t462 t463).bind fun t487 => (if t487 = true then ((meter_Same.f k t467 t468 t469 t467 t468 t469).bind fun t488 => (if t488 = true then ((meter_Same.f k t461 t462 t463 t467 t468 t469).bind fun t489 => (if t489 = true then (partitalaw05_MeterSame.j0 k t460 t481 bt483.2.2 true t461 t462 t463 t467 t468 t469 t479 t480 bt483.1 bt483.2.1) else ((meter_Same.f k t467 t468 t469 t473 t474 t475).bind fun t490 => ((meter_Same.f k t473 t474 t475 t467 t468 t469).bind fun t491 => (partitalaw05_MeterSame.j0 k t460 t481 bt483.2.2 (t490 != t491) t461 t462 t463 t467 t468 t469 t479 t480 bt483.1 bt483.2.1))))) else (partitalaw05_MeterSame.j0 k t460 t481 bt483.2.2 true t461 t462 t463 t467 t468 t469 t479 t480 bt483.1 bt483.2.1))) else (partitalaw05_MeterSame.j0 k t460 t481 bt483.2.2 true t461 t462 t463 t467 t468 t469 t479 t480 bt483.1 bt483.2.1)))) = some r := H
 have A7 := Aside0.mk A70
 clear A70
 replace H := Option.bind_eq_some_iff.mp H
 obtain ⟨⟨t483, t484, t485⟩, A80, H⟩ := H
 replace H : ((meter_Same.f k t461 t462 t463 t461 t462 t463).bind fun t487 => (if t487 = true then ((meter_Same.f k t467 t468 t469 t467 t468 t469).bind fun t488 => (if t488 = true then ((meter_Same.f k t461 t462 t463 t467 t468 t469).bind fun t489 => (if t489 = true then (partitalaw05_MeterSame.j0 k t460 t481 t485 true t461 t462 t463 t467 t468 t469 t479 t480 t483 t484) else ((meter_Same.f k t467 t468 t469 t473 t474 t475).bind fun t490 => ((meter_Same.f k t473 t474 t475 t467 t468 t469).bind fun t491 => (partitalaw05_MeterSame.j0 k t460 t481 t485 (t490 != t491) t461 t462 t463 t467 t468 t469 t479 t480 t483 t484))))) else (partitalaw05_MeterSame.j0 k t460 t481 t485 true t461 t462 t463 t467 t468 t469 t479 t480 t483 t484))) else (partitalaw05_MeterSame.j0 k t460 t481 t485 true t461 t462 t463 t467 t468 t469 t479 t480 t483 t484))) = some r := H
 have A8 := Aside0.mk A80
 clear A80
 have HC9 := Aside0.mk H
 clear H
 go_enter Try.func8, Try.ntmps8
 go_upto_region 7 with (first | ((with_reducible refine gate_dst (N := 2) rfl ?_); refine box_event ?hg (N := 2) ?hd (cs := #[.int .i64 a0_0, .int .i64 a0_1, .slice A0_2 l0_2.length c0_2]) (t := 24) ?hr ?_; (case hd => rfl); (case hg => rfl); (case hr => first | (go_simp; done) | (go_simp; rfl)); intro gb458 hg w10 hbox hb; have n0_ := Aside0.mk (below_step (by repeat (first | (with_reducible first | exact HB.out | apply below_alloc | apply pw_below_drewN | apply below_drew1) | exact HB.out)) hb); have n1_ := Aside0.mk (hbox); have n2_ := Aside0.mk ((by rw [hg]; exact (below_size (by repeat (first | (with_reducible first | exact HB.out | apply below_alloc | apply pw_below_drewN | apply below_drew1) | exact HB.out))) : w.heap.size ≤ gb458)); have n3_ := Aside0.mk ((by rw [hg]; exact (below_size (by repeat (first | (with_reducible first | exact HB.out | apply below_alloc | apply pw_below_drewN | apply below_drew1) | exact HB.out))) : w.heap.size ≤ gb458)); clear HB; have HB := n0_; have BK458 := n1_; have GW458 := n2_; have GE458 := n3_; clear n0_ n1_ n2_ n3_; clear hb hbox hg) | ((with_reducible refine gate_dst (N := 3) rfl ?_); refine box_event ?hg (N := 3) ?hd (cs := #[.int .i64 a1_0, .int .i64 a1_1, .slice A1_2 l1_2.length c1_2]) (t := 24) ?hr ?_; (case hd => rfl); (case hg => rfl); (case hr => first | (go_simp; done) | (go_simp; rfl)); intro gb459 hg w11 hbox hb; have n0_ := Aside0.mk (blk_below (qB BK458.out) hb); have n1_ := Aside0.mk (below_step (by repeat (first | (with_reducible first | exact HB.out | apply below_alloc | apply pw_below_drewN | apply below_drew1 | refine below_set ?_ GE458.out) | exact HB.out)) hb); have n2_ := Aside0.mk (hbox); have n3_ := Aside0.mk ((by rw [hg]; exact (below_size (by repeat (first | (with_reducible first | exact HB.out | apply below_alloc | apply pw_below_drewN | apply below_drew1 | refine below_set ?_ GE458.out) | exact HB.out))) : w.heap.size ≤ gb459)); have n4_ := Aside0.mk ((by rw [hg]; exact (below_size (by repeat (first | (with_reducible first | exact HB.out | apply below_alloc | apply pw_below_drewN | apply below_drew1 | refine below_set ?_ GE458.out) | exact HB.out))) : w.heap.size ≤ gb459)); have n5_ := Aside0.mk ((by rw [hg]; exact Nat.ne_of_lt (blk_lt (qB BK458.out)) : gb458 ≠ gb459)); have n6_ := Aside0.mk ((by rw [hg]; exact Nat.ne_of_gt (blk_lt (qB BK458.out)) : gb459 ≠ gb458)); clear BK458; clear HB; have BK458 := n0_; have HB := n1_; have BK459 := n2_; have GW459 := n3_; have GE459 := n4_; have NB458_459 := n5_; have NB459_458 := n6_; clear n0_ n1_ n2_ n3_ n4_ n5_ n6_; clear hb hbox hg) | ((with_reducible refine gate_callee (f := 10) rfl ?_); refine goesL_ (some 17) rfl rfl Try.func10 (by kernel_rfl) rfl #[] rfl (by (try simp only [List.map_toArray, List.map_cons, List.map_nil]); first | done | rfl | (simp only [List.length_drop, List.length_take]; rfl)) ?_; (with_reducible refine (partitalaw05_awake.calls k  t460 _ A3.out).mono ?_); rintro e w12 ⟨rfl, hb⟩; refine ⟨_, rfl, ?_⟩; have n0_ := Aside0.mk (blk_below (qB BK458.out) hb); have n1_ := Aside0.mk (blk_below (qB BK459.out) hb); have n2_ := Aside0.mk (below_step (by repeat (first | (with_reducible first | exact HB.out | apply below_alloc | apply pw_below_drewN | apply below_drew1 | refine below_set ?_ (Aside0.out (by assumption))) | exact HB.out)) hb); clear BK458; clear BK459; clear HB; have BK458 := n0_; have BK459 := n1_; have HB := n2_; clear n0_ n1_ n2_; (try clear hb); (try clear hb2); (try clear hk); (try clear hi); have hnb13 := NB458_459.out; have hnc13 := NB459_458.out; have hcz14_0 : w12.cell? ⟨gb458, 0, none⟩ = some (.int .i64 a0_0) := (blk_cell BK458.out 0).trans rfl; have hcz14_1 : w12.cell? ⟨gb458, 1, none⟩ = some (.int .i64 a0_1) := (blk_cell BK458.out 1).trans rfl; have hcz14_2 : w12.cell? ⟨gb458, 2, none⟩ = some (.slice A0_2 l0_2.length c0_2) := (blk_cell BK458.out 2).trans rfl; have hfz14_0 := blk_frozen BK458.out 0; have hfz14_1 := blk_frozen BK458.out 1; have hfz14_2 := blk_frozen BK458.out 2) | ((with_reducible refine gate_callee (f := 11) rfl ?_); refine goesL_ (some 19) rfl rfl Try.func11 (by kernel_rfl) rfl #[.agg #[.int .i64 a0_0, .int .i64 a0_1, .slice A0_2 l0_2.length c0_2], .bool false] rfl (by (try simp only [List.map_toArray, List.map_cons, List.map_nil]); first | done | rfl | (simp only [List.length_drop, List.length_take]; rfl)) ?_; (with_reducible refine (partitalaw05_Meter.calls k a0_0 a0_1 _ _ l0_2 false t461 t462 t463 _ ?side1 ?side2 A4.out).mono ?_); (case side1 => repeat (first | exact (Kd.C_below HR0_2.out HB.out) | (with_reducible refine Kd.C_alloc ?_ _) | (with_reducible refine Kd.C_drewN ?_ _) | (with_reducible refine Kd.C_drew ?_))); (case side2 => exact HC0_2.out); rintro e w15 ⟨v464, rfl, ho0, hb⟩; refine ⟨_, rfl, ?_⟩; have n0_ := Aside0.mk (Kd.R_lower ho0 (below_size (by repeat (first | (with_reducible first | exact HB.out | apply below_alloc | apply pw_below_drewN | apply below_drew1 | refine below_set ?_ (Aside0.out (by assumption))) | exact HB.out)))); have n1_ := Aside0.mk (blk_below (qB BK458.out) hb); have n2_ := Aside0.mk (blk_below (qB BK459.out) hb); have n3_ := Aside0.mk (below_step (by repeat (first | (with_reducible first | exact HB.out | apply below_alloc | apply pw_below_drewN | apply below_drew1 | refine below_set ?_ (Aside0.out (by assumption))) | exact HB.out)) hb); clear BK458; clear BK459; clear HB; have HO465 := n0_; have BK458 := n1_; have BK459 := n2_; have HB := n3_; clear n0_ n1_ n2_ n3_; (try clear hb); (try clear hb2); (try clear hk); (try clear hi); (try clear ho0)) | ((with_reducible refine gate_dst (N := 6) rfl ?_); refine box_event ?hg (N := 6) ?hd (cs := #[.int .i64 0, .int .i64 0, .slice none 0 0]) (t := 24) ?hr ?_; (case hd => rfl); (case hg => rfl); (case hr => first | (go_simp; done) | (go_simp; rfl)); intro gb466 hg w16 hbox hb; have n0_ := Aside0.mk (Kd.R_below (qR HO465.out) hb); have n1_ := Aside0.mk (blk_below (qB BK458.out) hb); have n2_ := Aside0.mk (blk_below (qB BK459.out) hb); have n3_ := Aside0.mk (below_step (by repeat (first | (with_reducible first | exact HB.out | apply below_alloc | apply pw_below_drewN | apply below_drew1 | refine below_set ?_ (Aside0.out (by assumption))) | exact HB.out)) hb); have n4_ := Aside0.mk (hbox); have n5_ := Aside0.mk ((by rw [hg]; exact (below_size (by repeat (first | (with_reducible first | exact HB.out | apply below_alloc | apply pw_below_drewN | apply below_drew1 | refine below_set ?_ (Aside0.out (by assumption))) | exact HB.out))) : w.heap.size ≤ gb466)); have n6_ := Aside0.mk ((by rw [hg]; exact (below_size (by repeat (first | (with_reducible first | exact HB.out | apply below_alloc | apply pw_below_drewN | apply below_drew1 | refine below_set ?_ (Aside0.out (by assumption))) | exact HB.out))) : w.heap.size ≤ gb466)); have n7_ := Aside0.mk ((by rw [hg]; exact Nat.ne_of_lt (blk_lt (qB BK458.out)) : gb458 ≠ gb466)); have n8_ := Aside0.mk ((by rw [hg]; exact Nat.ne_of_gt (blk_lt (qB BK458.out)) : gb466 ≠ gb458)); have n9_ := Aside0.mk ((by rw [hg]; exact Nat.ne_of_lt (blk_lt (qB BK459.out)) : gb459 ≠ gb466)); have n10_ := Aside0.mk ((by rw [hg]; exact Nat.ne_of_gt (blk_lt (qB BK459.out)) : gb466 ≠ gb459)); clear HO465; clear BK458; clear BK459; clear HB; have HO465 := n0_; have BK458 := n1_; have BK459 := n2_; have HB := n3_; have BK466 := n4_; have GW466 := n5_; have GE466 := n6_; have NB458_466 := n7_; have NB466_458 := n8_; have NB459_466 := n9_; have NB466_459 := n10_; clear n0_ n1_ n2_ n3_ n4_ n5_ n6_ n7_ n8_ n9_ n10_; clear hb hbox hg; have hnb17 := NB466_458.out; have hnc17 := NB458_466.out; have hnb18 := NB466_459.out; have hnc18 := NB459_466.out; have hcz19_0 : w16.cell? ⟨gb466, 0, none⟩ = some (.int .i64 0) := (blk_cell BK466.out 0).trans rfl; have hcz19_1 : w16.cell? ⟨gb466, 1, none⟩ = some (.int .i64 0) := (blk_cell BK466.out 1).trans rfl; have hcz19_2 : w16.cell? ⟨gb466, 2, none⟩ = some (.slice none 0 0) := (blk_cell BK466.out 2).trans rfl; have hfz19_0 := blk_frozen BK466.out 0; have hfz19_1 := blk_frozen BK466.out 1; have hfz19_2 := blk_frozen BK466.out 2; obtain ⟨Ao20, co20, eo20⟩ := Kd.R_slice HO465.out; subst eo20; have hcz21_0 : w16.cell? ⟨gb458, 0, none⟩ = some (.int .i64 a0_0) := (blk_cell BK458.out 0).trans rfl; have hcz21_1 : w16.cell? ⟨gb458, 1, none⟩ = some (.int .i64 a0_1) := (blk_cell BK458.out 1).trans rfl; have hcz21_2 : w16.cell? ⟨gb458, 2, none⟩ = some (.slice A0_2 l0_2.length c0_2) := (blk_cell BK458.out 2).trans rfl; have hfz21_0 := blk_frozen BK458.out 0; have hfz21_1 := blk_frozen BK458.out 1; have hfz21_2 := blk_frozen BK458.out 2) | ((with_reducible refine gate_callee (f := 11) rfl ?_); refine goesL_ (some 21) rfl rfl Try.func11 (by kernel_rfl) rfl #[.agg #[.int .i64 a0_0, .int .i64 a0_1, .slice A0_2 l0_2.length c0_2], .bool true] rfl (by (try simp only [List.map_toArray, List.map_cons, List.map_nil]); first | done | rfl | (simp only [List.length_drop, List.length_take]; rfl)) ?_; (with_reducible refine (partitalaw05_Meter.calls k a0_0 a0_1 _ _ l0_2 true t467 t468 t469 _ ?side1 ?side2 A5.out).mono ?_); (case side1 => exact Kd.C_below HR0_2.out (by repeat (first | (with_reducible first | exact HB.out | apply below_alloc | apply pw_below_drewN | apply below_drew1 | refine below_set ?_ (Aside0.out (by assumption))) | exact HB.out))); (case side2 => exact HC0_2.out); rintro e w22 ⟨v470, rfl, ho0, hb⟩; refine ⟨_, rfl, ?_⟩; have n0_ := Aside0.mk (Kd.R_elder' (qR ((Kd.R_mono (Kd.R_far (p := ⟨gb466, 2, none⟩) (Kd.R_far (p := ⟨gb466, 1, none⟩) (Kd.R_far (p := ⟨gb466, 0, none⟩) (Kd.R_types HO465.out BK466.out (by decide)) (fun _ hk => hk.2) (.int .i64 t461)) (fun _ hk => hk.2) (.int .i64 t462)) (fun _ hk => hk.2) (.slice Ao20 t463.length co20)) (fun _ h_ => h_.1)))) (Kd.R_base ho0) hb); have n1_ := Aside0.mk (Kd.R_lower (Kd.R_new' ho0 (Kd.R_lt (qR ((Kd.R_mono (Kd.R_far (p := ⟨gb466, 2, none⟩) (Kd.R_far (p := ⟨gb466, 1, none⟩) (Kd.R_far (p := ⟨gb466, 0, none⟩) (Kd.R_types HO465.out BK466.out (by decide)) (fun _ hk => hk.2) (.int .i64 t461)) (fun _ hk => hk.2) (.int .i64 t462)) (fun _ hk => hk.2) (.slice Ao20 t463.length co20)) (fun _ h_ => h_.1)))))) (below_size (by repeat (first | (with_reducible first | exact HB.out | apply below_alloc | apply pw_below_drewN | apply below_drew1 | refine below_set ?_ (Aside0.out (by assumption))) | exact HB.out)))); have n2_ := Aside0.mk (blk_below (g := gb458) (o := .cells #[.int .i64 a0_0, .int .i64 a0_1, .slice A0_2 l0_2.length c0_2] 24 (0, 0)) (by (with_reducible repeat (first | refine blk_drewN ?_ _ | refine blk_drew ?_ | refine blk_alloc ?_ _)); refine blk_far ?_ NB458_466.out _; (with_reducible repeat (first | refine blk_drewN ?_ _ | refine blk_drew ?_ | refine blk_alloc ?_ _)); refine blk_far ?_ NB458_466.out _; (with_reducible repeat (first | refine blk_drewN ?_ _ | refine blk_drew ?_ | refine blk_alloc ?_ _)); refine blk_far ?_ NB458_466.out _; (with_reducible repeat (first | refine blk_drewN ?_ _ | refine blk_drew ?_ | refine blk_alloc ?_ _)); exact BK458.out) hb); have n3_ := Aside0.mk (blk_below (g := gb459) (o := .cells #[.int .i64 a1_0, .int .i64 a1_1, .slice A1_2 l1_2.length c1_2] 24 (0, 0)) (by (with_reducible repeat (first | refine blk_drewN ?_ _ | refine blk_drew ?_ | refine blk_alloc ?_ _)); refine blk_far ?_ NB459_466.out _; (with_reducible repeat (first | refine blk_drewN ?_ _ | refine blk_drew ?_ | refine blk_alloc ?_ _)); refine blk_far ?_ NB459_466.out _; (with_reducible repeat (first | refine blk_drewN ?_ _ | refine blk_drew ?_ | refine blk_alloc ?_ _)); refine blk_far ?_ NB459_466.out _; (with_reducible repeat (first | refine blk_drewN ?_ _ | refine blk_drew ?_ | refine blk_alloc ?_ _)); exact BK459.out) hb); have n4_ := Aside0.mk (blk_below (g := gb466) (o := .cells #[.int .i64 t461, .int .i64 t462, .slice Ao20 t463.length co20] 24 (0, 0)) (by (with_reducible repeat (first | refine blk_drewN ?_ _ | refine blk_drew ?_ | refine blk_alloc ?_ _)); refine blk_put (cs := #[.int .i64 t461, .int .i64 t462, .slice none 0 0]) ?_ 2 _ rfl; (with_reducible repeat (first | refine blk_drewN ?_ _ | refine blk_drew ?_ | refine blk_alloc ?_ _)); refine blk_put (cs := #[.int .i64 t461, .int .i64 0, .slice none 0 0]) ?_ 1 _ rfl; (with_reducible repeat (first | refine blk_drewN ?_ _ | refine blk_drew ?_ | refine blk_alloc ?_ _)); refine blk_put (cs := #[.int .i64 0, .int .i64 0, .slice none 0 0]) ?_ 0 _ rfl; (with_reducible repeat (first | refine blk_drewN ?_ _ | refine blk_drew ?_ | refine blk_alloc ?_ _)); exact BK466.out) hb); have n5_ := Aside0.mk (below_step (by repeat (first | (with_reducible first | exact HB.out | apply below_alloc | apply pw_below_drewN | apply below_drew1 | refine below_set ?_ (Aside0.out (by assumption))) | exact HB.out)) hb); clear HO465; clear BK458; clear BK459; clear BK466; clear HB; have HO465 := n0_; have HO471 := n1_; have BK458 := n2_; have BK459 := n3_; have BK466 := n4_; have HB := n5_; clear n0_ n1_ n2_ n3_ n4_ n5_; (try clear hb); (try clear hb2); (try clear hk); (try clear hi); (try clear ho0)) | ((with_reducible refine gate_dst (N := 7) rfl ?_); refine box_event ?hg (N := 7) ?hd (cs := #[.int .i64 0, .int .i64 0, .slice none 0 0]) (t := 24) ?hr ?_; (case hd => rfl); (case hg => rfl); (case hr => first | (go_simp; done) | (go_simp; rfl)); intro gb472 hg w23 hbox hb; have n0_ := Aside0.mk (Kd.R_below (qR HO465.out) hb); have n1_ := Aside0.mk (Kd.R_below (qR HO471.out) hb); have n2_ := Aside0.mk (blk_below (qB BK458.out) hb); have n3_ := Aside0.mk (blk_below (qB BK459.out) hb); have n4_ := Aside0.mk (blk_below (qB BK466.out) hb); have n5_ := Aside0.mk (below_step (by repeat (first | (with_reducible first | exact HB.out | apply below_alloc | apply pw_below_drewN | apply below_drew1 | refine below_set ?_ (Aside0.out (by assumption))) | exact HB.out)) hb); have n6_ := Aside0.mk (hbox); have n7_ := Aside0.mk ((by rw [hg]; exact (below_size (by repeat (first | (with_reducible first | exact HB.out | apply below_alloc | apply pw_below_drewN | apply below_drew1 | refine below_set ?_ (Aside0.out (by assumption))) | exact HB.out))) : w.heap.size ≤ gb472)); have n8_ := Aside0.mk ((by rw [hg]; exact (below_size (by repeat (first | (with_reducible first | exact HB.out | apply below_alloc | apply pw_below_drewN | apply below_drew1 | refine below_set ?_ (Aside0.out (by assumption))) | exact HB.out))) : w.heap.size ≤ gb472)); have n9_ := Aside0.mk ((by rw [hg]; exact Nat.ne_of_lt (blk_lt (qB BK458.out)) : gb458 ≠ gb472)); have n10_ := Aside0.mk ((by rw [hg]; exact Nat.ne_of_gt (blk_lt (qB BK458.out)) : gb472 ≠ gb458)); have n11_ := Aside0.mk ((by rw [hg]; exact Nat.ne_of_lt (blk_lt (qB BK459.out)) : gb459 ≠ gb472)); have n12_ := Aside0.mk ((by rw [hg]; exact Nat.ne_of_gt (blk_lt (qB BK459.out)) : gb472 ≠ gb459)); have n13_ := Aside0.mk ((by rw [hg]; exact Nat.ne_of_lt (blk_lt (qB BK466.out)) : gb466 ≠ gb472)); have n14_ := Aside0.mk ((by rw [hg]; exact Nat.ne_of_gt (blk_lt (qB BK466.out)) : gb472 ≠ gb466)); clear HO465; clear HO471; clear BK458; clear BK459; clear BK466; clear HB; have HO465 := n0_; have HO471 := n1_; have BK458 := n2_; have BK459 := n3_; have BK466 := n4_; have HB := n5_; have BK472 := n6_; have GW472 := n7_; have GE472 := n8_; have NB458_472 := n9_; have NB472_458 := n10_; have NB459_472 := n11_; have NB472_459 := n12_; have NB466_472 := n13_; have NB472_466 := n14_; clear n0_ n1_ n2_ n3_ n4_ n5_ n6_ n7_ n8_ n9_ n10_ n11_ n12_ n13_ n14_; clear hb hbox hg; have hnb24 := NB472_458.out; have hnc24 := NB458_472.out; have hnb25 := NB472_459.out; have hnc25 := NB459_472.out; have hnb26 := NB472_466.out; have hnc26 := NB466_472.out; have hcz27_0 : w23.cell? ⟨gb472, 0, none⟩ = some (.int .i64 0) := (blk_cell BK472.out 0).trans rfl; have hcz27_1 : w23.cell? ⟨gb472, 1, none⟩ = some (.int .i64 0) := (blk_cell BK472.out 1).trans rfl; have hcz27_2 : w23.cell? ⟨gb472, 2, none⟩ = some (.slice none 0 0) := (blk_cell BK472.out 2).trans rfl; have hfz27_0 := blk_frozen BK472.out 0; have hfz27_1 := blk_frozen BK472.out 1; have hfz27_2 := blk_frozen BK472.out 2; obtain ⟨Ao28, co28, eo28⟩ := Kd.R_slice HO471.out; subst eo28; have hcz29_0 : w23.cell? ⟨gb459, 0, none⟩ = some (.int .i64 a1_0) := (blk_cell BK459.out 0).trans rfl; have hcz29_1 : w23.cell? ⟨gb459, 1, none⟩ = some (.int .i64 a1_1) := (blk_cell BK459.out 1).trans rfl; have hcz29_2 : w23.cell? ⟨gb459, 2, none⟩ = some (.slice A1_2 l1_2.length c1_2) := (blk_cell BK459.out 2).trans rfl; have hfz29_0 := blk_frozen BK459.out 0; have hfz29_1 := blk_frozen BK459.out 1; have hfz29_2 := blk_frozen BK459.out 2) | ((with_reducible refine gate_callee (f := 11) rfl ?_); refine goesL_ (some 23) rfl rfl Try.func11 (by kernel_rfl) rfl #[.agg #[.int .i64 a1_0, .int .i64 a1_1, .slice A1_2 l1_2.length c1_2], .bool true] rfl (by (try simp only [List.map_toArray, List.map_cons, List.map_nil]); first | done | rfl | (simp only [List.length_drop, List.length_take]; rfl)) ?_; (with_reducible refine (partitalaw05_Meter.calls k a1_0 a1_1 _ _ l1_2 true t473 t474 t475 _ ?side1 ?side2 A6.out).mono ?_); (case side1 => exact Kd.C_below HR1_2.out (by repeat (first | (with_reducible first | exact HB.out | apply below_alloc | apply pw_below_drewN | apply below_drew1 | refine below_set ?_ (Aside0.out (by assumption))) | exact HB.out))); (case side2 => exact HC1_2.out); rintro e w30 ⟨v476, rfl, ho0, hb⟩; refine ⟨_, rfl, ?_⟩; have n0_ := Aside0.mk (Kd.R_elder' (qR ((Kd.R_mono (Kd.R_far (p := ⟨gb472, 2, none⟩) (Kd.R_far (p := ⟨gb472, 1, none⟩) (Kd.R_far (p := ⟨gb472, 0, none⟩) (Kd.R_types HO465.out BK472.out (by decide)) (fun _ hk => hk.2) (.int .i64 t467)) (fun _ hk => hk.2) (.int .i64 t468)) (fun _ hk => hk.2) (.slice Ao28 t469.length co28)) (fun _ h_ => h_.1)))) (Kd.R_base ho0) hb); have n1_ := Aside0.mk (Kd.R_elder' (qR ((Kd.R_mono (Kd.R_far (p := ⟨gb472, 2, none⟩) (Kd.R_far (p := ⟨gb472, 1, none⟩) (Kd.R_far (p := ⟨gb472, 0, none⟩) (Kd.R_types HO471.out BK472.out (by decide)) (fun _ hk => hk.2) (.int .i64 t467)) (fun _ hk => hk.2) (.int .i64 t468)) (fun _ hk => hk.2) (.slice Ao28 t469.length co28)) (fun _ h_ => h_.1)))) (Kd.R_base ho0) hb); have n2_ := Aside0.mk (Kd.R_lower (Kd.R_new' (Kd.R_new' ho0 (Kd.R_lt (qR ((Kd.R_mono (Kd.R_far (p := ⟨gb472, 2, none⟩) (Kd.R_far (p := ⟨gb472, 1, none⟩) (Kd.R_far (p := ⟨gb472, 0, none⟩) (Kd.R_types HO465.out BK472.out (by decide)) (fun _ hk => hk.2) (.int .i64 t467)) (fun _ hk => hk.2) (.int .i64 t468)) (fun _ hk => hk.2) (.slice Ao28 t469.length co28)) (fun _ h_ => h_.1)))))) (Kd.R_lt (qR ((Kd.R_mono (Kd.R_far (p := ⟨gb472, 2, none⟩) (Kd.R_far (p := ⟨gb472, 1, none⟩) (Kd.R_far (p := ⟨gb472, 0, none⟩) (Kd.R_types HO471.out BK472.out (by decide)) (fun _ hk => hk.2) (.int .i64 t467)) (fun _ hk => hk.2) (.int .i64 t468)) (fun _ hk => hk.2) (.slice Ao28 t469.length co28)) (fun _ h_ => h_.1)))))) (below_size (by repeat (first | (with_reducible first | exact HB.out | apply below_alloc | apply pw_below_drewN | apply below_drew1 | refine below_set ?_ (Aside0.out (by assumption))) | exact HB.out)))); have n3_ := Aside0.mk (blk_below (g := gb458) (o := .cells #[.int .i64 a0_0, .int .i64 a0_1, .slice A0_2 l0_2.length c0_2] 24 (0, 0)) (by (with_reducible repeat (first | refine blk_drewN ?_ _ | refine blk_drew ?_ | refine blk_alloc ?_ _)); refine blk_far ?_ NB458_472.out _; (with_reducible repeat (first | refine blk_drewN ?_ _ | refine blk_drew ?_ | refine blk_alloc ?_ _)); refine blk_far ?_ NB458_472.out _; (with_reducible repeat (first | refine blk_drewN ?_ _ | refine blk_drew ?_ | refine blk_alloc ?_ _)); refine blk_far ?_ NB458_472.out _; (with_reducible repeat (first | refine blk_drewN ?_ _ | refine blk_drew ?_ | refine blk_alloc ?_ _)); exact BK458.out) hb); have n4_ := Aside0.mk (blk_below (g := gb459) (o := .cells #[.int .i64 a1_0, .int .i64 a1_1, .slice A1_2 l1_2.length c1_2] 24 (0, 0)) (by (with_reducible repeat (first | refine blk_drewN ?_ _ | refine blk_drew ?_ | refine blk_alloc ?_ _)); refine blk_far ?_ NB459_472.out _; (with_reducible repeat (first | refine blk_drewN ?_ _ | refine blk_drew ?_ | refine blk_alloc ?_ _)); refine blk_far ?_ NB459_472.out _; (with_reducible repeat (first | refine blk_drewN ?_ _ | refine blk_drew ?_ | refine blk_alloc ?_ _)); refine blk_far ?_ NB459_472.out _; (with_reducible repeat (first | refine blk_drewN ?_ _ | refine blk_drew ?_ | refine blk_alloc ?_ _)); exact BK459.out) hb); have n5_ := Aside0.mk (blk_below (g := gb466) (o := .cells #[.int .i64 t461, .int .i64 t462, .slice Ao20 t463.length co20] 24 (0, 0)) (by (with_reducible repeat (first | refine blk_drewN ?_ _ | refine blk_drew ?_ | refine blk_alloc ?_ _)); refine blk_far ?_ NB466_472.out _; (with_reducible repeat (first | refine blk_drewN ?_ _ | refine blk_drew ?_ | refine blk_alloc ?_ _)); refine blk_far ?_ NB466_472.out _; (with_reducible repeat (first | refine blk_drewN ?_ _ | refine blk_drew ?_ | refine blk_alloc ?_ _)); refine blk_far ?_ NB466_472.out _; (with_reducible repeat (first | refine blk_drewN ?_ _ | refine blk_drew ?_ | refine blk_alloc ?_ _)); exact BK466.out) hb); have n6_ := Aside0.mk (blk_below (g := gb472) (o := .cells #[.int .i64 t467, .int .i64 t468, .slice Ao28 t469.length co28] 24 (0, 0)) (by (with_reducible repeat (first | refine blk_drewN ?_ _ | refine blk_drew ?_ | refine blk_alloc ?_ _)); refine blk_put (cs := #[.int .i64 t467, .int .i64 t468, .slice none 0 0]) ?_ 2 _ rfl; (with_reducible repeat (first | refine blk_drewN ?_ _ | refine blk_drew ?_ | refine blk_alloc ?_ _)); refine blk_put (cs := #[.int .i64 t467, .int .i64 0, .slice none 0 0]) ?_ 1 _ rfl; (with_reducible repeat (first | refine blk_drewN ?_ _ | refine blk_drew ?_ | refine blk_alloc ?_ _)); refine blk_put (cs := #[.int .i64 0, .int .i64 0, .slice none 0 0]) ?_ 0 _ rfl; (with_reducible repeat (first | refine blk_drewN ?_ _ | refine blk_drew ?_ | refine blk_alloc ?_ _)); exact BK472.out) hb); have n7_ := Aside0.mk (below_step (by repeat (first | (with_reducible first | exact HB.out | apply below_alloc | apply pw_below_drewN | apply below_drew1 | refine below_set ?_ (Aside0.out (by assumption))) | exact HB.out)) hb); clear HO465; clear HO471; clear BK458; clear BK459; clear BK466; clear BK472; clear HB; have HO465 := n0_; have HO471 := n1_; have HO477 := n2_; have BK458 := n3_; have BK459 := n4_; have BK466 := n5_; have BK472 := n6_; have HB := n7_; clear n0_ n1_ n2_ n3_ n4_ n5_ n6_ n7_; (try clear hb); (try clear hb2); (try clear hk); (try clear hi); (try clear ho0)) | ((with_reducible refine gate_dst (N := 8) rfl ?_); refine box_event ?hg (N := 8) ?hd (cs := #[.int .i64 0, .int .i64 0, .slice none 0 0]) (t := 24) ?hr ?_; (case hd => rfl); (case hg => rfl); (case hr => first | (go_simp; done) | (go_simp; rfl)); intro gb478 hg w31 hbox hb; have n0_ := Aside0.mk (Kd.R_below (qR HO465.out) hb); have n1_ := Aside0.mk (Kd.R_below (qR HO471.out) hb); have n2_ := Aside0.mk (Kd.R_below (qR HO477.out) hb); have n3_ := Aside0.mk (blk_below (qB BK458.out) hb); have n4_ := Aside0.mk (blk_below (qB BK459.out) hb); have n5_ := Aside0.mk (blk_below (qB BK466.out) hb); have n6_ := Aside0.mk (blk_below (qB BK472.out) hb); have n7_ := Aside0.mk (below_step (by repeat (first | (with_reducible first | exact HB.out | apply below_alloc | apply pw_below_drewN | apply below_drew1 | refine below_set ?_ (Aside0.out (by assumption))) | exact HB.out)) hb); have n8_ := Aside0.mk (hbox); have n9_ := Aside0.mk ((by rw [hg]; exact (below_size (by repeat (first | (with_reducible first | exact HB.out | apply below_alloc | apply pw_below_drewN | apply below_drew1 | refine below_set ?_ (Aside0.out (by assumption))) | exact HB.out))) : w.heap.size ≤ gb478)); have n10_ := Aside0.mk ((by rw [hg]; exact (below_size (by repeat (first | (with_reducible first | exact HB.out | apply below_alloc | apply pw_below_drewN | apply below_drew1 | refine below_set ?_ (Aside0.out (by assumption))) | exact HB.out))) : w.heap.size ≤ gb478)); have n11_ := Aside0.mk ((by rw [hg]; exact Nat.ne_of_lt (blk_lt (qB BK458.out)) : gb458 ≠ gb478)); have n12_ := Aside0.mk ((by rw [hg]; exact Nat.ne_of_gt (blk_lt (qB BK458.out)) : gb478 ≠ gb458)); have n13_ := Aside0.mk ((by rw [hg]; exact Nat.ne_of_lt (blk_lt (qB BK459.out)) : gb459 ≠ gb478)); have n14_ := Aside0.mk ((by rw [hg]; exact Nat.ne_of_gt (blk_lt (qB BK459.out)) : gb478 ≠ gb459)); have n15_ := Aside0.mk ((by rw [hg]; exact Nat.ne_of_lt (blk_lt (qB BK466.out)) : gb466 ≠ gb478)); have n16_ := Aside0.mk ((by rw [hg]; exact Nat.ne_of_gt (blk_lt (qB BK466.out)) : gb478 ≠ gb466)); have n17_ := Aside0.mk ((by rw [hg]; exact Nat.ne_of_lt (blk_lt (qB BK472.out)) : gb472 ≠ gb478)); have n18_ := Aside0.mk ((by rw [hg]; exact Nat.ne_of_gt (blk_lt (qB BK472.out)) : gb478 ≠ gb472)); clear HO465; clear HO471; clear HO477; clear BK458; clear BK459; clear BK466; clear BK472; clear HB; have HO465 := n0_; have HO471 := n1_; have HO477 := n2_; have BK458 := n3_; have BK459 := n4_; have BK466 := n5_; have BK472 := n6_; have HB := n7_; have BK478 := n8_; have GW478 := n9_; have GE478 := n10_; have NB458_478 := n11_; have NB478_458 := n12_; have NB459_478 := n13_; have NB478_459 := n14_; have NB466_478 := n15_; have NB478_466 := n16_; have NB472_478 := n17_; have NB478_472 := n18_; clear n0_ n1_ n2_ n3_ n4_ n5_ n6_ n7_ n8_ n9_ n10_ n11_ n12_ n13_ n14_ n15_ n16_ n17_ n18_; clear hb hbox hg; have hnb32 := NB478_458.out; have hnc32 := NB458_478.out; have hnb33 := NB478_459.out; have hnc33 := NB459_478.out; have hnb34 := NB478_466.out; have hnc34 := NB466_478.out; have hnb35 := NB478_472.out; have hnc35 := NB472_478.out; have hcz36_0 : w31.cell? ⟨gb478, 0, none⟩ = some (.int .i64 0) := (blk_cell BK478.out 0).trans rfl; have hcz36_1 : w31.cell? ⟨gb478, 1, none⟩ = some (.int .i64 0) := (blk_cell BK478.out 1).trans rfl; have hcz36_2 : w31.cell? ⟨gb478, 2, none⟩ = some (.slice none 0 0) := (blk_cell BK478.out 2).trans rfl; have hfz36_0 := blk_frozen BK478.out 0; have hfz36_1 := blk_frozen BK478.out 1; have hfz36_2 := blk_frozen BK478.out 2; obtain ⟨Ao37, co37, eo37⟩ := Kd.R_slice HO477.out; subst eo37; have hcz38_0 : w31.cell? ⟨gb466, 0, none⟩ = some (.int .i64 t461) := (blk_cell BK466.out 0).trans rfl; have hcz38_1 : w31.cell? ⟨gb466, 1, none⟩ = some (.int .i64 t462) := (blk_cell BK466.out 1).trans rfl; have hcz38_2 : w31.cell? ⟨gb466, 2, none⟩ = some (.slice Ao20 t463.length co20) := (blk_cell BK466.out 2).trans rfl; have hfz38_0 := blk_frozen BK466.out 0; have hfz38_1 := blk_frozen BK466.out 1; have hfz38_2 := blk_frozen BK466.out 2) | ((with_reducible refine gate_callee (f := 12) rfl ?_); refine goesL_ (some 26) rfl rfl Try.func12 (by kernel_rfl) rfl #[.agg #[.int .i64 t461, .int .i64 t462, .slice Ao20 t463.length co20]] rfl (by (try simp only [List.map_toArray, List.map_cons, List.map_nil]); first | done | rfl | (simp only [List.length_drop, List.length_take]; rfl)) ?_; (with_reducible refine (meter_Length.calls k t461 t462 _ _ t463 t479 t480 t481 _ ?side1 ?side2 A7.out).mono ?_); (case side1 => refine (Kd.R_reads' (e := 3) (base := w.heap.size) (ok := fun k_ => ((True ∧ some k_ ≠ (.slice Ao28 t469.length co28 : Value).ownBlock) ∧ some k_ ≠ (.slice Ao37 t475.length co37 : Value).ownBlock)) (n := t463.length) (c := co20) ?_).2.2; exact (qR ((Kd.R_mono (Kd.R_far (p := ⟨gb478, 2, none⟩) (Kd.R_far (p := ⟨gb478, 1, none⟩) (Kd.R_far (p := ⟨gb478, 0, none⟩) (Kd.R_types HO465.out BK478.out (by decide)) (fun _ hk => hk.2) (.int .i64 t473)) (fun _ hk => hk.2) (.int .i64 t474)) (fun _ hk => hk.2) (.slice Ao37 t475.length co37)) (fun _ h_ => h_.1))))); (case side2 => exact (Kd.R_reads' HO465.out).2.1); rintro e w39 ⟨rfl, hb⟩; refine ⟨_, rfl, ?_⟩; have n0_ := Aside0.mk (Kd.R_below (qR ((Kd.R_mono (Kd.R_far (p := ⟨gb478, 2, none⟩) (Kd.R_far (p := ⟨gb478, 1, none⟩) (Kd.R_far (p := ⟨gb478, 0, none⟩) (Kd.R_types HO465.out BK478.out (by decide)) (fun _ hk => hk.2) (.int .i64 t473)) (fun _ hk => hk.2) (.int .i64 t474)) (fun _ hk => hk.2) (.slice Ao37 t475.length co37)) (fun _ h_ => h_.1)))) hb); have n1_ := Aside0.mk (Kd.R_below (qR ((Kd.R_mono (Kd.R_far (p := ⟨gb478, 2, none⟩) (Kd.R_far (p := ⟨gb478, 1, none⟩) (Kd.R_far (p := ⟨gb478, 0, none⟩) (Kd.R_types HO471.out BK478.out (by decide)) (fun _ hk => hk.2) (.int .i64 t473)) (fun _ hk => hk.2) (.int .i64 t474)) (fun _ hk => hk.2) (.slice Ao37 t475.length co37)) (fun _ h_ => h_.1)))) hb); have n2_ := Aside0.mk (Kd.R_below (qR ((Kd.R_mono (Kd.R_far (p := ⟨gb478, 2, none⟩) (Kd.R_far (p := ⟨gb478, 1, none⟩) (Kd.R_far (p := ⟨gb478, 0, none⟩) (Kd.R_types HO477.out BK478.out (by decide)) (fun _ hk => hk.2) (.int .i64 t473)) (fun _ hk => hk.2) (.int .i64 t474)) (fun _ hk => hk.2) (.slice Ao37 t475.length co37)) (fun _ h_ => h_.1)))) hb); have n3_ := Aside0.mk (blk_below (g := gb458) (o := .cells #[.int .i64 a0_0, .int .i64 a0_1, .slice A0_2 l0_2.length c0_2] 24 (0, 0)) (by (with_reducible repeat (first | refine blk_drewN ?_ _ | refine blk_drew ?_ | refine blk_alloc ?_ _)); refine blk_far ?_ NB458_478.out _; (with_reducible repeat (first | refine blk_drewN ?_ _ | refine blk_drew ?_ | refine blk_alloc ?_ _)); refine blk_far ?_ NB458_478.out _; (with_reducible repeat (first | refine blk_drewN ?_ _ | refine blk_drew ?_ | refine blk_alloc ?_ _)); refine blk_far ?_ NB458_478.out _; (with_reducible repeat (first | refine blk_drewN ?_ _ | refine blk_drew ?_ | refine blk_alloc ?_ _)); exact BK458.out) hb); have n4_ := Aside0.mk (blk_below (g := gb459) (o := .cells #[.int .i64 a1_0, .int .i64 a1_1, .slice A1_2 l1_2.length c1_2] 24 (0, 0)) (by (with_reducible repeat (first | refine blk_drewN ?_ _ | refine blk_drew ?_ | refine blk_alloc ?_ _)); refine blk_far ?_ NB459_478.out _; (with_reducible repeat (first | refine blk_drewN ?_ _ | refine blk_drew ?_ | refine blk_alloc ?_ _)); refine blk_far ?_ NB459_478.out _; (with_reducible repeat (first | refine blk_drewN ?_ _ | refine blk_drew ?_ | refine blk_alloc ?_ _)); refine blk_far ?_ NB459_478.out _; (with_reducible repeat (first | refine blk_drewN ?_ _ | refine blk_drew ?_ | refine blk_alloc ?_ _)); exact BK459.out) hb); have n5_ := Aside0.mk (blk_below (g := gb466) (o := .cells #[.int .i64 t461, .int .i64 t462, .slice Ao20 t463.length co20] 24 (0, 0)) (by (with_reducible repeat (first | refine blk_drewN ?_ _ | refine blk_drew ?_ | refine blk_alloc ?_ _)); refine blk_far ?_ NB466_478.out _; (with_reducible repeat (first | refine blk_drewN ?_ _ | refine blk_drew ?_ | refine blk_alloc ?_ _)); refine blk_far ?_ NB466_478.out _; (with_reducible repeat (first | refine blk_drewN ?_ _ | refine blk_drew ?_ | refine blk_alloc ?_ _)); refine blk_far ?_ NB466_478.out _; (with_reducible repeat (first | refine blk_drewN ?_ _ | refine blk_drew ?_ | refine blk_alloc ?_ _)); exact BK466.out) hb); have n6_ := Aside0.mk (blk_below (g := gb472) (o := .cells #[.int .i64 t467, .int .i64 t468, .slice Ao28 t469.length co28] 24 (0, 0)) (by (with_reducible repeat (first | refine blk_drewN ?_ _ | refine blk_drew ?_ | refine blk_alloc ?_ _)); refine blk_far ?_ NB472_478.out _; (with_reducible repeat (first | refine blk_drewN ?_ _ | refine blk_drew ?_ | refine blk_alloc ?_ _)); refine blk_far ?_ NB472_478.out _; (with_reducible repeat (first | refine blk_drewN ?_ _ | refine blk_drew ?_ | refine blk_alloc ?_ _)); refine blk_far ?_ NB472_478.out _; (with_reducible repeat (first | refine blk_drewN ?_ _ | refine blk_drew ?_ | refine blk_alloc ?_ _)); exact BK472.out) hb); have n7_ := Aside0.mk (blk_below (g := gb478) (o := .cells #[.int .i64 t473, .int .i64 t474, .slice Ao37 t475.length co37] 24 (0, 0)) (by (with_reducible repeat (first | refine blk_drewN ?_ _ | refine blk_drew ?_ | refine blk_alloc ?_ _)); refine blk_put (cs := #[.int .i64 t473, .int .i64 t474, .slice none 0 0]) ?_ 2 _ rfl; (with_reducible repeat (first | refine blk_drewN ?_ _ | refine blk_drew ?_ | refine blk_alloc ?_ _)); refine blk_put (cs := #[.int .i64 t473, .int .i64 0, .slice none 0 0]) ?_ 1 _ rfl; (with_reducible repeat (first | refine blk_drewN ?_ _ | refine blk_drew ?_ | refine blk_alloc ?_ _)); refine blk_put (cs := #[.int .i64 0, .int .i64 0, .slice none 0 0]) ?_ 0 _ rfl; (with_reducible repeat (first | refine blk_drewN ?_ _ | refine blk_drew ?_ | refine blk_alloc ?_ _)); exact BK478.out) hb); have n8_ := Aside0.mk (below_step (by repeat (first | (with_reducible first | exact HB.out | apply below_alloc | apply pw_below_drewN | apply below_drew1 | refine below_set ?_ (Aside0.out (by assumption))) | exact HB.out)) hb); clear HO465; clear HO471; clear HO477; clear BK458; clear BK459; clear BK466; clear BK472; clear BK478; clear HB; have HO465 := n0_; have HO471 := n1_; have HO477 := n2_; have BK458 := n3_; have BK459 := n4_; have BK466 := n5_; have BK472 := n6_; have BK478 := n7_; have HB := n8_; clear n0_ n1_ n2_ n3_ n4_ n5_ n6_ n7_ n8_; (try clear hb); (try clear hb2); (try clear hk); (try clear hi)) | ((with_reducible refine gate_dst (N := 9) rfl ?_); refine box_event ?hg (N := 9) ?hd (cs := #[.int .i64 0, .int .i64 0]) (t := 26) ?hr ?_; (case hd => rfl); (case hg => rfl); (case hr => first | (go_simp; done) | (go_simp; rfl)); intro gb482 hg w40 hbox hb; have n0_ := Aside0.mk (Kd.R_below (qR HO465.out) hb); have n1_ := Aside0.mk (Kd.R_below (qR HO471.out) hb); have n2_ := Aside0.mk (Kd.R_below (qR HO477.out) hb); have n3_ := Aside0.mk (blk_below (qB BK458.out) hb); have n4_ := Aside0.mk (blk_below (qB BK459.out) hb); have n5_ := Aside0.mk (blk_below (qB BK466.out) hb); have n6_ := Aside0.mk (blk_below (qB BK472.out) hb); have n7_ := Aside0.mk (blk_below (qB BK478.out) hb); have n8_ := Aside0.mk (below_step (by repeat (first | (with_reducible first | exact HB.out | apply below_alloc | apply pw_below_drewN | apply below_drew1 | refine below_set ?_ (Aside0.out (by assumption))) | exact HB.out)) hb); have n9_ := Aside0.mk (hbox); have n10_ := Aside0.mk ((by rw [hg]; exact (below_size (by repeat (first | (with_reducible first | exact HB.out | apply below_alloc | apply pw_below_drewN | apply below_drew1 | refine below_set ?_ (Aside0.out (by assumption))) | exact HB.out))) : w.heap.size ≤ gb482)); have n11_ := Aside0.mk ((by rw [hg]; exact (below_size (by repeat (first | (with_reducible first | exact HB.out | apply below_alloc | apply pw_below_drewN | apply below_drew1 | refine below_set ?_ (Aside0.out (by assumption))) | exact HB.out))) : w.heap.size ≤ gb482)); have n12_ := Aside0.mk ((by rw [hg]; exact Nat.ne_of_lt (blk_lt (qB BK458.out)) : gb458 ≠ gb482)); have n13_ := Aside0.mk ((by rw [hg]; exact Nat.ne_of_gt (blk_lt (qB BK458.out)) : gb482 ≠ gb458)); have n14_ := Aside0.mk ((by rw [hg]; exact Nat.ne_of_lt (blk_lt (qB BK459.out)) : gb459 ≠ gb482)); have n15_ := Aside0.mk ((by rw [hg]; exact Nat.ne_of_gt (blk_lt (qB BK459.out)) : gb482 ≠ gb459)); have n16_ := Aside0.mk ((by rw [hg]; exact Nat.ne_of_lt (blk_lt (qB BK466.out)) : gb466 ≠ gb482)); have n17_ := Aside0.mk ((by rw [hg]; exact Nat.ne_of_gt (blk_lt (qB BK466.out)) : gb482 ≠ gb466)); have n18_ := Aside0.mk ((by rw [hg]; exact Nat.ne_of_lt (blk_lt (qB BK472.out)) : gb472 ≠ gb482)); have n19_ := Aside0.mk ((by rw [hg]; exact Nat.ne_of_gt (blk_lt (qB BK472.out)) : gb482 ≠ gb472)); have n20_ := Aside0.mk ((by rw [hg]; exact Nat.ne_of_lt (blk_lt (qB BK478.out)) : gb478 ≠ gb482)); have n21_ := Aside0.mk ((by rw [hg]; exact Nat.ne_of_gt (blk_lt (qB BK478.out)) : gb482 ≠ gb478)); clear HO465; clear HO471; clear HO477; clear BK458; clear BK459; clear BK466; clear BK472; clear BK478; clear HB; have HO465 := n0_; have HO471 := n1_; have HO477 := n2_; have BK458 := n3_; have BK459 := n4_; have BK466 := n5_; have BK472 := n6_; have BK478 := n7_; have HB := n8_; have BK482 := n9_; have GW482 := n10_; have GE482 := n11_; have NB458_482 := n12_; have NB482_458 := n13_; have NB459_482 := n14_; have NB482_459 := n15_; have NB466_482 := n16_; have NB482_466 := n17_; have NB472_482 := n18_; have NB482_472 := n19_; have NB478_482 := n20_; have NB482_478 := n21_; clear n0_ n1_ n2_ n3_ n4_ n5_ n6_ n7_ n8_ n9_ n10_ n11_ n12_ n13_ n14_ n15_ n16_ n17_ n18_ n19_ n20_ n21_; clear hb hbox hg; have hnb41 := NB482_458.out; have hnc41 := NB458_482.out; have hnb42 := NB482_459.out; have hnc42 := NB459_482.out; have hnb43 := NB482_466.out; have hnc43 := NB466_482.out; have hnb44 := NB482_472.out; have hnc44 := NB472_482.out; have hnb45 := NB482_478.out; have hnc45 := NB478_482.out; have hcz46_0 : w40.cell? ⟨gb482, 0, none⟩ = some (.int .i64 0) := (blk_cell BK482.out 0).trans rfl; have hcz46_1 : w40.cell? ⟨gb482, 1, none⟩ = some (.int .i64 0) := (blk_cell BK482.out 1).trans rfl; have hfz46_0 := blk_frozen BK482.out 0; have hfz46_1 := blk_frozen BK482.out 1; have hcz47_0 : w40.cell? ⟨gb472, 0, none⟩ = some (.int .i64 t467) := (blk_cell BK472.out 0).trans rfl; have hcz47_1 : w40.cell? ⟨gb472, 1, none⟩ = some (.int .i64 t468) := (blk_cell BK472.out 1).trans rfl; have hcz47_2 : w40.cell? ⟨gb472, 2, none⟩ = some (.slice Ao28 t469.length co28) := (blk_cell BK472.out 2).trans rfl; have hfz47_0 := blk_frozen BK472.out 0; have hfz47_1 := blk_frozen BK472.out 1; have hfz47_2 := blk_frozen BK472.out 2) | ((with_reducible refine gate_callee (f := 12) rfl ?_); refine goesL_ (some 31) rfl rfl Try.func12 (by kernel_rfl) rfl #[.agg #[.int .i64 t467, .int .i64 t468, .slice Ao28 t469.length co28]] rfl (by (try simp only [List.map_toArray, List.map_cons, List.map_nil]); first | done | rfl | (simp only [List.length_drop, List.length_take]; rfl)) ?_; (with_reducible refine (meter_Length.calls k t467 t468 _ _ t469 t483 t484 t485 _ ?side1 ?side2 A8.out).mono ?_); (case side1 => refine (Kd.R_reads' (e := 3) (base := w.heap.size) (ok := fun k_ => ((True ∧ some k_ ≠ (.slice Ao20 t463.length co20 : Value).ownBlock) ∧ some k_ ≠ (.slice Ao37 t475.length co37 : Value).ownBlock)) (n := t469.length) (c := co28) ?_).2.2; exact (qR ((Kd.R_mono (Kd.R_far (p := ⟨gb482, 1, none⟩) (Kd.R_far (p := ⟨gb482, 0, none⟩) (Kd.R_types HO471.out BK482.out (by decide)) (fun _ hk => hk.2) (.int .i64 t479)) (fun _ hk => hk.2) (.int .i64 t480)) (fun _ h_ => h_.1))))); (case side2 => exact (Kd.R_reads' HO471.out).2.1); rintro e w48 ⟨rfl, hb⟩; refine ⟨_, rfl, ?_⟩; have n0_ := Aside0.mk (Kd.R_below (qR ((Kd.R_mono (Kd.R_far (p := ⟨gb482, 1, none⟩) (Kd.R_far (p := ⟨gb482, 0, none⟩) (Kd.R_types HO465.out BK482.out (by decide)) (fun _ hk => hk.2) (.int .i64 t479)) (fun _ hk => hk.2) (.int .i64 t480)) (fun _ h_ => h_.1)))) hb); have n1_ := Aside0.mk (Kd.R_below (qR ((Kd.R_mono (Kd.R_far (p := ⟨gb482, 1, none⟩) (Kd.R_far (p := ⟨gb482, 0, none⟩) (Kd.R_types HO471.out BK482.out (by decide)) (fun _ hk => hk.2) (.int .i64 t479)) (fun _ hk => hk.2) (.int .i64 t480)) (fun _ h_ => h_.1)))) hb); have n2_ := Aside0.mk (Kd.R_below (qR ((Kd.R_mono (Kd.R_far (p := ⟨gb482, 1, none⟩) (Kd.R_far (p := ⟨gb482, 0, none⟩) (Kd.R_types HO477.out BK482.out (by decide)) (fun _ hk => hk.2) (.int .i64 t479)) (fun _ hk => hk.2) (.int .i64 t480)) (fun _ h_ => h_.1)))) hb); have n3_ := Aside0.mk (blk_below (g := gb458) (o := .cells #[.int .i64 a0_0, .int .i64 a0_1, .slice A0_2 l0_2.length c0_2] 24 (0, 0)) (by (with_reducible repeat (first | refine blk_drewN ?_ _ | refine blk_drew ?_ | refine blk_alloc ?_ _)); refine blk_far ?_ NB458_482.out _; (with_reducible repeat (first | refine blk_drewN ?_ _ | refine blk_drew ?_ | refine blk_alloc ?_ _)); refine blk_far ?_ NB458_482.out _; (with_reducible repeat (first | refine blk_drewN ?_ _ | refine blk_drew ?_ | refine blk_alloc ?_ _)); exact BK458.out) hb); have n4_ := Aside0.mk (blk_below (g := gb459) (o := .cells #[.int .i64 a1_0, .int .i64 a1_1, .slice A1_2 l1_2.length c1_2] 24 (0, 0)) (by (with_reducible repeat (first | refine blk_drewN ?_ _ | refine blk_drew ?_ | refine blk_alloc ?_ _)); refine blk_far ?_ NB459_482.out _; (with_reducible repeat (first | refine blk_drewN ?_ _ | refine blk_drew ?_ | refine blk_alloc ?_ _)); refine blk_far ?_ NB459_482.out _; (with_reducible repeat (first | refine blk_drewN ?_ _ | refine blk_drew ?_ | refine blk_alloc ?_ _)); exact BK459.out) hb); have n5_ := Aside0.mk (blk_below (g := gb466) (o := .cells #[.int .i64 t461, .int .i64 t462, .slice Ao20 t463.length co20] 24 (0, 0)) (by (with_reducible repeat (first | refine blk_drewN ?_ _ | refine blk_drew ?_ | refine blk_alloc ?_ _)); refine blk_far ?_ NB466_482.out _; (with_reducible repeat (first | refine blk_drewN ?_ _ | refine blk_drew ?_ | refine blk_alloc ?_ _)); refine blk_far ?_ NB466_482.out _; (with_reducible repeat (first | refine blk_drewN ?_ _ | refine blk_drew ?_ | refine blk_alloc ?_ _)); exact BK466.out) hb); have n6_ := Aside0.mk (blk_below (g := gb472) (o := .cells #[.int .i64 t467, .int .i64 t468, .slice Ao28 t469.length co28] 24 (0, 0)) (by (with_reducible repeat (first | refine blk_drewN ?_ _ | refine blk_drew ?_ | refine blk_alloc ?_ _)); refine blk_far ?_ NB472_482.out _; (with_reducible repeat (first | refine blk_drewN ?_ _ | refine blk_drew ?_ | refine blk_alloc ?_ _)); refine blk_far ?_ NB472_482.out _; (with_reducible repeat (first | refine blk_drewN ?_ _ | refine blk_drew ?_ | refine blk_alloc ?_ _)); exact BK472.out) hb); have n7_ := Aside0.mk (blk_below (g := gb478) (o := .cells #[.int .i64 t473, .int .i64 t474, .slice Ao37 t475.length co37] 24 (0, 0)) (by (with_reducible repeat (first | refine blk_drewN ?_ _ | refine blk_drew ?_ | refine blk_alloc ?_ _)); refine blk_far ?_ NB478_482.out _; (with_reducible repeat (first | refine blk_drewN ?_ _ | refine blk_drew ?_ | refine blk_alloc ?_ _)); refine blk_far ?_ NB478_482.out _; (with_reducible repeat (first | refine blk_drewN ?_ _ | refine blk_drew ?_ | refine blk_alloc ?_ _)); exact BK478.out) hb); have n8_ := Aside0.mk (blk_below (g := gb482) (o := .cells #[.int .i64 t479, .int .i64 t480] 26 (0, 0)) (by (with_reducible repeat (first | refine blk_drewN ?_ _ | refine blk_drew ?_ | refine blk_alloc ?_ _)); refine blk_put (cs := #[.int .i64 t479, .int .i64 0]) ?_ 1 _ rfl; (with_reducible repeat (first | refine blk_drewN ?_ _ | refine blk_drew ?_ | refine blk_alloc ?_ _)); refine blk_put (cs := #[.int .i64 0, .int .i64 0]) ?_ 0 _ rfl; (with_reducible repeat (first | refine blk_drewN ?_ _ | refine blk_drew ?_ | refine blk_alloc ?_ _)); exact BK482.out) hb); have n9_ := Aside0.mk (below_step (by repeat (first | (with_reducible first | exact HB.out | apply below_alloc | apply pw_below_drewN | apply below_drew1 | refine below_set ?_ (Aside0.out (by assumption))) | exact HB.out)) hb); clear HO465; clear HO471; clear HO477; clear BK458; clear BK459; clear BK466; clear BK472; clear BK478; clear BK482; clear HB; have HO465 := n0_; have HO471 := n1_; have HO477 := n2_; have BK458 := n3_; have BK459 := n4_; have BK466 := n5_; have BK472 := n6_; have BK478 := n7_; have BK482 := n8_; have HB := n9_; clear n0_ n1_ n2_ n3_ n4_ n5_ n6_ n7_ n8_ n9_; (try clear hb); (try clear hb2); (try clear hk); (try clear hi)) | ((with_reducible refine gate_dst (N := 11) rfl ?_); refine box_event ?hg (N := 11) ?hd (cs := #[.int .i64 0, .int .i64 0]) (t := 26) ?hr ?_; (case hd => rfl); (case hg => rfl); (case hr => first | (go_simp; done) | (go_simp; rfl)); intro gb486 hg w49 hbox hb; have n0_ := Aside0.mk (Kd.R_below (qR HO465.out) hb); have n1_ := Aside0.mk (Kd.R_below (qR HO471.out) hb); have n2_ := Aside0.mk (Kd.R_below (qR HO477.out) hb); have n3_ := Aside0.mk (blk_below (qB BK458.out) hb); have n4_ := Aside0.mk (blk_below (qB BK459.out) hb); have n5_ := Aside0.mk (blk_below (qB BK466.out) hb); have n6_ := Aside0.mk (blk_below (qB BK472.out) hb); have n7_ := Aside0.mk (blk_below (qB BK478.out) hb); have n8_ := Aside0.mk (blk_below (qB BK482.out) hb); have n9_ := Aside0.mk (below_step (by repeat (first | (with_reducible first | exact HB.out | apply below_alloc | apply pw_below_drewN | apply below_drew1 | refine below_set ?_ (Aside0.out (by assumption))) | exact HB.out)) hb); have n10_ := Aside0.mk (hbox); have n11_ := Aside0.mk ((by rw [hg]; exact (below_size (by repeat (first | (with_reducible first | exact HB.out | apply below_alloc | apply pw_below_drewN | apply below_drew1 | refine below_set ?_ (Aside0.out (by assumption))) | exact HB.out))) : w.heap.size ≤ gb486)); have n12_ := Aside0.mk ((by rw [hg]; exact (below_size (by repeat (first | (with_reducible first | exact HB.out | apply below_alloc | apply pw_below_drewN | apply below_drew1 | refine below_set ?_ (Aside0.out (by assumption))) | exact HB.out))) : w.heap.size ≤ gb486)); have n13_ := Aside0.mk ((by rw [hg]; exact Nat.ne_of_lt (blk_lt (qB BK458.out)) : gb458 ≠ gb486)); have n14_ := Aside0.mk ((by rw [hg]; exact Nat.ne_of_gt (blk_lt (qB BK458.out)) : gb486 ≠ gb458)); have n15_ := Aside0.mk ((by rw [hg]; exact Nat.ne_of_lt (blk_lt (qB BK459.out)) : gb459 ≠ gb486)); have n16_ := Aside0.mk ((by rw [hg]; exact Nat.ne_of_gt (blk_lt (qB BK459.out)) : gb486 ≠ gb459)); have n17_ := Aside0.mk ((by rw [hg]; exact Nat.ne_of_lt (blk_lt (qB BK466.out)) : gb466 ≠ gb486)); have n18_ := Aside0.mk ((by rw [hg]; exact Nat.ne_of_gt (blk_lt (qB BK466.out)) : gb486 ≠ gb466)); have n19_ := Aside0.mk ((by rw [hg]; exact Nat.ne_of_lt (blk_lt (qB BK472.out)) : gb472 ≠ gb486)); have n20_ := Aside0.mk ((by rw [hg]; exact Nat.ne_of_gt (blk_lt (qB BK472.out)) : gb486 ≠ gb472)); have n21_ := Aside0.mk ((by rw [hg]; exact Nat.ne_of_lt (blk_lt (qB BK478.out)) : gb478 ≠ gb486)); have n22_ := Aside0.mk ((by rw [hg]; exact Nat.ne_of_gt (blk_lt (qB BK478.out)) : gb486 ≠ gb478)); have n23_ := Aside0.mk ((by rw [hg]; exact Nat.ne_of_lt (blk_lt (qB BK482.out)) : gb482 ≠ gb486)); have n24_ := Aside0.mk ((by rw [hg]; exact Nat.ne_of_gt (blk_lt (qB BK482.out)) : gb486 ≠ gb482)); clear HO465; clear HO471; clear HO477; clear BK458; clear BK459; clear BK466; clear BK472; clear BK478; clear BK482; clear HB; have HO465 := n0_; have HO471 := n1_; have HO477 := n2_; have BK458 := n3_; have BK459 := n4_; have BK466 := n5_; have BK472 := n6_; have BK478 := n7_; have BK482 := n8_; have HB := n9_; have BK486 := n10_; have GW486 := n11_; have GE486 := n12_; have NB458_486 := n13_; have NB486_458 := n14_; have NB459_486 := n15_; have NB486_459 := n16_; have NB466_486 := n17_; have NB486_466 := n18_; have NB472_486 := n19_; have NB486_472 := n20_; have NB478_486 := n21_; have NB486_478 := n22_; have NB482_486 := n23_; have NB486_482 := n24_; clear n0_ n1_ n2_ n3_ n4_ n5_ n6_ n7_ n8_ n9_ n10_ n11_ n12_ n13_ n14_ n15_ n16_ n17_ n18_ n19_ n20_ n21_ n22_ n23_ n24_; clear hb hbox hg; have hnb50 := NB486_458.out; have hnc50 := NB458_486.out; have hnb51 := NB486_459.out; have hnc51 := NB459_486.out; have hnb52 := NB486_466.out; have hnc52 := NB466_486.out; have hnb53 := NB486_472.out; have hnc53 := NB472_486.out; have hnb54 := NB486_478.out; have hnc54 := NB478_486.out; have hnb55 := NB486_482.out; have hnc55 := NB482_486.out; have hcz56_0 : w49.cell? ⟨gb486, 0, none⟩ = some (.int .i64 0) := (blk_cell BK486.out 0).trans rfl; have hcz56_1 : w49.cell? ⟨gb486, 1, none⟩ = some (.int .i64 0) := (blk_cell BK486.out 1).trans rfl; have hfz56_0 := blk_frozen BK486.out 0; have hfz56_1 := blk_frozen BK486.out 1))
 (try simp only [Act.put, qa_, qz_, qs_])
 go_cut [57] (fun v57 wc => ∃ (kq : Nat) (x57_8 : Bool), v57 = .bool x57_8 ∧ Aside0 (partitalaw05_MeterSame.j0 kq t460 t481 t485 x57_8 t461 t462 t463 t467 t468 t469 t479 t480 t483 t484 = some r) ∧ Aside0 (kq ≤ k) ∧ Aside0 (Kd.R (Kd.int .i64) 3 wc w.heap.size (fun k_ => some k_ ≠ ((.slice Ao28 t469.length co28) : Value).ownBlock ∧ some k_ ≠ ((.slice Ao37 t475.length co37) : Value).ownBlock) (.slice Ao20 t463.length co20) t463) ∧ Aside0 (Kd.R (Kd.int .i64) 3 wc w.heap.size (fun k_ => some k_ ≠ ((.slice Ao20 t463.length co20) : Value).ownBlock ∧ some k_ ≠ ((.slice Ao37 t475.length co37) : Value).ownBlock) (.slice Ao28 t469.length co28) t469) ∧ Aside0 (Kd.R (Kd.int .i64) 3 wc w.heap.size (fun k_ => some k_ ≠ ((.slice Ao20 t463.length co20) : Value).ownBlock ∧ some k_ ≠ ((.slice Ao28 t469.length co28) : Value).ownBlock) (.slice Ao37 t475.length co37) t475) ∧ Aside0 (wc.heap[gb458]? = some (.cells #[.int .i64 a0_0, .int .i64 a0_1, (.slice A0_2 l0_2.length c0_2)] 24 (0, 0))) ∧ Aside0 (wc.heap[gb459]? = some (.cells #[.int .i64 a1_0, .int .i64 a1_1, (.slice A1_2 l1_2.length c1_2)] 24 (0, 0))) ∧ Aside0 (wc.heap[gb466]? = some (.cells #[.int .i64 t461, .int .i64 t462, (.slice Ao20 t463.length co20)] 24 (0, 0))) ∧ Aside0 (wc.heap[gb472]? = some (.cells #[.int .i64 t467, .int .i64 t468, (.slice Ao28 t469.length co28)] 24 (0, 0))) ∧ Aside0 (wc.heap[gb478]? = some (.cells #[.int .i64 t473, .int .i64 t474, (.slice Ao37 t475.length co37)] 24 (0, 0))) ∧ Aside0 (wc.heap[gb482]? = some (.cells #[.int .i64 t479, .int .i64 t480] 26 (0, 0))) ∧ Aside0 (wc.heap[gb486]? = some (.cells #[.int .i64 t483, .int .i64 t484] 26 (0, 0))) ∧ Aside0 (Below w.heap.size w wc))
 case first =>
  have H := HC9.out
  clear HC9
  replace H := Option.bind_eq_some_iff.mp H
  obtain ⟨t487, A570, H⟩ := H
  replace H : (if t487 = true then ((meter_Same.f k t467 t468 t469 t467 t468 t469).bind fun t488 => (if t488 = true then ((meter_Same.f k t461 t462 t463 t467 t468 t469).bind fun t489 => (if t489 = true then (partitalaw05_MeterSame.j0 k t460 t481 t485 true t461 t462 t463 t467 t468 t469 t479 t480 t483 t484) else ((meter_Same.f k t467 t468 t469 t473 t474 t475).bind fun t490 => ((meter_Same.f k t473 t474 t475 t467 t468 t469).bind fun t491 => (partitalaw05_MeterSame.j0 k t460 t481 t485 (t490 != t491) t461 t462 t463 t467 t468 t469 t479 t480 t483 t484))))) else (partitalaw05_MeterSame.j0 k t460 t481 t485 true t461 t462 t463 t467 t468 t469 t479 t480 t483 t484))) else (partitalaw05_MeterSame.j0 k t460 t481 t485 true t461 t462 t463 t467 t468 t469 t479 t480 t483 t484)) = some r := H
  have A57 := Aside0.mk A570
  clear A570
  by_cases c58 : t487 = true
  · subst c58
    have H1 : ((meter_Same.f k t467 t468 t469 t467 t468 t469).bind fun t488 => (if t488 = true then ((meter_Same.f k t461 t462 t463 t467 t468 t469).bind fun t489 => (if t489 = true then (partitalaw05_MeterSame.j0 k t460 t481 t485 true t461 t462 t463 t467 t468 t469 t479 t480 t483 t484) else ((meter_Same.f k t467 t468 t469 t473 t474 t475).bind fun t490 => ((meter_Same.f k t473 t474 t475 t467 t468 t469).bind fun t491 => (partitalaw05_MeterSame.j0 k t460 t481 t485 (t490 != t491) t461 t462 t463 t467 t468 t469 t479 t480 t483 t484))))) else (partitalaw05_MeterSame.j0 k t460 t481 t485 true t461 t462 t463 t467 t468 t469 t479 t480 t483 t484))) = some r := by rw [if_pos rfl] at H; exact H
    clear H
    have H := H1
    clear H1
    replace H := Option.bind_eq_some_iff.mp H
    obtain ⟨t488, A590, H⟩ := H
    replace H : (if t488 = true then ((meter_Same.f k t461 t462 t463 t467 t468 t469).bind fun t489 => (if t489 = true then (partitalaw05_MeterSame.j0 k t460 t481 t485 true t461 t462 t463 t467 t468 t469 t479 t480 t483 t484) else ((meter_Same.f k t467 t468 t469 t473 t474 t475).bind fun t490 => ((meter_Same.f k t473 t474 t475 t467 t468 t469).bind fun t491 => (partitalaw05_MeterSame.j0 k t460 t481 t485 (t490 != t491) t461 t462 t463 t467 t468 t469 t479 t480 t483 t484))))) else (partitalaw05_MeterSame.j0 k t460 t481 t485 true t461 t462 t463 t467 t468 t469 t479 t480 t483 t484)) = some r := H
    have A59 := Aside0.mk A590
    clear A590
    by_cases c60 : t488 = true
    · subst c60
      have H1 : ((meter_Same.f k t461 t462 t463 t467 t468 t469).bind fun t489 => (if t489 = true then (partitalaw05_MeterSame.j0 k t460 t481 t485 true t461 t462 t463 t467 t468 t469 t479 t480 t483 t484) else ((meter_Same.f k t467 t468 t469 t473 t474 t475).bind fun t490 => ((meter_Same.f k t473 t474 t475 t467 t468 t469).bind fun t491 => (partitalaw05_MeterSame.j0 k t460 t481 t485 (t490 != t491) t461 t462 t463 t467 t468 t469 t479 t480 t483 t484))))) = some r := by rw [if_pos rfl] at H; exact H
      clear H
      have H := H1
      clear H1
      replace H := Option.bind_eq_some_iff.mp H
      obtain ⟨t489, A610, H⟩ := H
      replace H : (if t489 = true then (partitalaw05_MeterSame.j0 k t460 t481 t485 true t461 t462 t463 t467 t468 t469 t479 t480 t483 t484) else ((meter_Same.f k t467 t468 t469 t473 t474 t475).bind fun t490 => ((meter_Same.f k t473 t474 t475 t467 t468 t469).bind fun t491 => (partitalaw05_MeterSame.j0 k t460 t481 t485 (t490 != t491) t461 t462 t463 t467 t468 t469 t479 t480 t483 t484)))) = some r := H
      have A61 := Aside0.mk A610
      clear A610
      by_cases c62 : t489 = true
      · subst c62
        have H1 : (partitalaw05_MeterSame.j0 k t460 t481 t485 true t461 t462 t463 t467 t468 t469 t479 t480 t483 t484) = some r := by rw [if_pos rfl] at H; exact H
        clear H
        have H := H1
        clear H1
        have H' := Aside0.mk H
        clear H
        try go_wp2
        have n0_ : Aside0 (Kd.R (Kd.int .i64) 3 ((w49.setCell ⟨gb486, 0, none⟩ (.int .i64 t483)).setCell ⟨gb486, 1, none⟩ (.int .i64 t484)) w.heap.size (fun k_ => some k_ ≠ (.slice Ao28 t469.length co28 : Value).ownBlock ∧ some k_ ≠ (.slice Ao37 t475.length co37 : Value).ownBlock) (.slice Ao20 t463.length co20) t463) := ⟨by (with_reducible repeat (first | apply Kd.R_alloc | apply Kd.R_drewN | apply Kd.R_drew)); exact Kd.R_mono (Kd.R_far (p := ⟨gb486, 1, none⟩) (Kd.R_far (p := ⟨gb486, 0, none⟩) (Kd.R_types HO465.out BK486.out (by decide)) (fun _ hk => hk.2) (.int .i64 t483)) (fun _ hk => hk.2) (.int .i64 t484)) (fun _ hk => ⟨hk.1.1.2, hk.1.2⟩)⟩
        have n1_ : Aside0 (Kd.R (Kd.int .i64) 3 ((w49.setCell ⟨gb486, 0, none⟩ (.int .i64 t483)).setCell ⟨gb486, 1, none⟩ (.int .i64 t484)) w.heap.size (fun k_ => some k_ ≠ (.slice Ao20 t463.length co20 : Value).ownBlock ∧ some k_ ≠ (.slice Ao37 t475.length co37 : Value).ownBlock) (.slice Ao28 t469.length co28) t469) := ⟨by (with_reducible repeat (first | apply Kd.R_alloc | apply Kd.R_drewN | apply Kd.R_drew)); exact Kd.R_mono (Kd.R_far (p := ⟨gb486, 1, none⟩) (Kd.R_far (p := ⟨gb486, 0, none⟩) (Kd.R_types HO471.out BK486.out (by decide)) (fun _ hk => hk.2) (.int .i64 t483)) (fun _ hk => hk.2) (.int .i64 t484)) (fun _ hk => ⟨hk.1.1.2, hk.1.2⟩)⟩
        have n2_ : Aside0 (Kd.R (Kd.int .i64) 3 ((w49.setCell ⟨gb486, 0, none⟩ (.int .i64 t483)).setCell ⟨gb486, 1, none⟩ (.int .i64 t484)) w.heap.size (fun k_ => some k_ ≠ (.slice Ao20 t463.length co20 : Value).ownBlock ∧ some k_ ≠ (.slice Ao28 t469.length co28 : Value).ownBlock) (.slice Ao37 t475.length co37) t475) := ⟨by (with_reducible repeat (first | apply Kd.R_alloc | apply Kd.R_drewN | apply Kd.R_drew)); exact Kd.R_mono (Kd.R_far (p := ⟨gb486, 1, none⟩) (Kd.R_far (p := ⟨gb486, 0, none⟩) (Kd.R_types HO477.out BK486.out (by decide)) (fun _ hk => hk.2) (.int .i64 t483)) (fun _ hk => hk.2) (.int .i64 t484)) (fun _ hk => ⟨hk.1.1.2, hk.1.2⟩)⟩
        have n3_ : Aside0 (((w49.setCell ⟨gb486, 0, none⟩ (.int .i64 t483)).setCell ⟨gb486, 1, none⟩ (.int .i64 t484)).heap[gb458]? = some (.cells #[.int .i64 a0_0, .int .i64 a0_1, .slice A0_2 l0_2.length c0_2] 24 (0, 0))) := ⟨by (with_reducible repeat (first | refine blk_drewN ?_ _ | refine blk_drew ?_ | refine blk_alloc ?_ _)); refine blk_far ?_ NB458_486.out _; (with_reducible repeat (first | refine blk_drewN ?_ _ | refine blk_drew ?_ | refine blk_alloc ?_ _)); refine blk_far ?_ NB458_486.out _; (with_reducible repeat (first | refine blk_drewN ?_ _ | refine blk_drew ?_ | refine blk_alloc ?_ _)); exact BK458.out⟩
        have n4_ : Aside0 (((w49.setCell ⟨gb486, 0, none⟩ (.int .i64 t483)).setCell ⟨gb486, 1, none⟩ (.int .i64 t484)).heap[gb459]? = some (.cells #[.int .i64 a1_0, .int .i64 a1_1, .slice A1_2 l1_2.length c1_2] 24 (0, 0))) := ⟨by (with_reducible repeat (first | refine blk_drewN ?_ _ | refine blk_drew ?_ | refine blk_alloc ?_ _)); refine blk_far ?_ NB459_486.out _; (with_reducible repeat (first | refine blk_drewN ?_ _ | refine blk_drew ?_ | refine blk_alloc ?_ _)); refine blk_far ?_ NB459_486.out _; (with_reducible repeat (first | refine blk_drewN ?_ _ | refine blk_drew ?_ | refine blk_alloc ?_ _)); exact BK459.out⟩
        have n5_ : Aside0 (((w49.setCell ⟨gb486, 0, none⟩ (.int .i64 t483)).setCell ⟨gb486, 1, none⟩ (.int .i64 t484)).heap[gb466]? = some (.cells #[.int .i64 t461, .int .i64 t462, .slice Ao20 t463.length co20] 24 (0, 0))) := ⟨by (with_reducible repeat (first | refine blk_drewN ?_ _ | refine blk_drew ?_ | refine blk_alloc ?_ _)); refine blk_far ?_ NB466_486.out _; (with_reducible repeat (first | refine blk_drewN ?_ _ | refine blk_drew ?_ | refine blk_alloc ?_ _)); refine blk_far ?_ NB466_486.out _; (with_reducible repeat (first | refine blk_drewN ?_ _ | refine blk_drew ?_ | refine blk_alloc ?_ _)); exact BK466.out⟩
        have n6_ : Aside0 (((w49.setCell ⟨gb486, 0, none⟩ (.int .i64 t483)).setCell ⟨gb486, 1, none⟩ (.int .i64 t484)).heap[gb472]? = some (.cells #[.int .i64 t467, .int .i64 t468, .slice Ao28 t469.length co28] 24 (0, 0))) := ⟨by (with_reducible repeat (first | refine blk_drewN ?_ _ | refine blk_drew ?_ | refine blk_alloc ?_ _)); refine blk_far ?_ NB472_486.out _; (with_reducible repeat (first | refine blk_drewN ?_ _ | refine blk_drew ?_ | refine blk_alloc ?_ _)); refine blk_far ?_ NB472_486.out _; (with_reducible repeat (first | refine blk_drewN ?_ _ | refine blk_drew ?_ | refine blk_alloc ?_ _)); exact BK472.out⟩
        have n7_ : Aside0 (((w49.setCell ⟨gb486, 0, none⟩ (.int .i64 t483)).setCell ⟨gb486, 1, none⟩ (.int .i64 t484)).heap[gb478]? = some (.cells #[.int .i64 t473, .int .i64 t474, .slice Ao37 t475.length co37] 24 (0, 0))) := ⟨by (with_reducible repeat (first | refine blk_drewN ?_ _ | refine blk_drew ?_ | refine blk_alloc ?_ _)); refine blk_far ?_ NB478_486.out _; (with_reducible repeat (first | refine blk_drewN ?_ _ | refine blk_drew ?_ | refine blk_alloc ?_ _)); refine blk_far ?_ NB478_486.out _; (with_reducible repeat (first | refine blk_drewN ?_ _ | refine blk_drew ?_ | refine blk_alloc ?_ _)); exact BK478.out⟩
        have n8_ : Aside0 (((w49.setCell ⟨gb486, 0, none⟩ (.int .i64 t483)).setCell ⟨gb486, 1, none⟩ (.int .i64 t484)).heap[gb482]? = some (.cells #[.int .i64 t479, .int .i64 t480] 26 (0, 0))) := ⟨by (with_reducible repeat (first | refine blk_drewN ?_ _ | refine blk_drew ?_ | refine blk_alloc ?_ _)); refine blk_far ?_ NB482_486.out _; (with_reducible repeat (first | refine blk_drewN ?_ _ | refine blk_drew ?_ | refine blk_alloc ?_ _)); refine blk_far ?_ NB482_486.out _; (with_reducible repeat (first | refine blk_drewN ?_ _ | refine blk_drew ?_ | refine blk_alloc ?_ _)); exact BK482.out⟩
        have n9_ : Aside0 (((w49.setCell ⟨gb486, 0, none⟩ (.int .i64 t483)).setCell ⟨gb486, 1, none⟩ (.int .i64 t484)).heap[gb486]? = some (.cells #[.int .i64 t483, .int .i64 t484] 26 (0, 0))) := ⟨by (with_reducible repeat (first | refine blk_drewN ?_ _ | refine blk_drew ?_ | refine blk_alloc ?_ _)); refine blk_put (cs := #[.int .i64 t483, .int .i64 0]) ?_ 1 _ rfl; (with_reducible repeat (first | refine blk_drewN ?_ _ | refine blk_drew ?_ | refine blk_alloc ?_ _)); refine blk_put (cs := #[.int .i64 0, .int .i64 0]) ?_ 0 _ rfl; (with_reducible repeat (first | refine blk_drewN ?_ _ | refine blk_drew ?_ | refine blk_alloc ?_ _)); exact BK486.out⟩
        have n10_ : Aside0 (Below w.heap.size w ((w49.setCell ⟨gb486, 0, none⟩ (.int .i64 t483)).setCell ⟨gb486, 1, none⟩ (.int .i64 t484))) := ⟨by repeat (first | (with_reducible first | exact HB.out | apply below_alloc | apply pw_below_drewN | apply below_drew1 | refine below_set ?_ (Aside0.out (by assumption))) | exact HB.out)⟩
        (try clear HO465)
        (try clear HO471)
        (try clear HO477)
        (try clear BK458)
        (try clear BK459)
        (try clear BK466)
        (try clear BK472)
        (try clear BK478)
        (try clear BK482)
        (try clear BK486)
        (try clear HB)
        generalize ((w49.setCell ⟨gb486, 0, none⟩ (.int .i64 t483)).setCell ⟨gb486, 1, none⟩ (.int .i64 t484)) = w63 at n0_ n1_ n2_ n3_ n4_ n5_ n6_ n7_ n8_ n9_ n10_ ⊢
        have HO465 := n0_
        have HO471 := n1_
        have HO477 := n2_
        have BK458 := n3_
        have BK459 := n4_
        have BK466 := n5_
        have BK472 := n6_
        have BK478 := n7_
        have BK482 := n8_
        have BK486 := n9_
        have HB := n10_
        clear n0_ n1_ n2_ n3_ n4_ n5_ n6_ n7_ n8_ n9_ n10_
        have n0_ := Aside0.mk (Kd.R_drew HO465.out)
        have n1_ := Aside0.mk (Kd.R_drew HO471.out)
        have n2_ := Aside0.mk (Kd.R_drew HO477.out)
        have n3_ := Aside0.mk (blk_drew BK458.out)
        have n4_ := Aside0.mk (blk_drew BK459.out)
        have n5_ := Aside0.mk (blk_drew BK466.out)
        have n6_ := Aside0.mk (blk_drew BK472.out)
        have n7_ := Aside0.mk (blk_drew BK478.out)
        have n8_ := Aside0.mk (blk_drew BK482.out)
        have n9_ := Aside0.mk (blk_drew BK486.out)
        have n10_ := Aside0.mk (below_drew1 HB.out)
        clear HO465
        clear HO471
        clear HO477
        clear BK458
        clear BK459
        clear BK466
        clear BK472
        clear BK478
        clear BK482
        clear BK486
        clear HB
        have HO465 := n0_
        have HO471 := n1_
        have HO477 := n2_
        have BK458 := n3_
        have BK459 := n4_
        have BK466 := n5_
        have BK472 := n6_
        have BK478 := n7_
        have BK482 := n8_
        have BK486 := n9_
        have HB := n10_
        clear n0_ n1_ n2_ n3_ n4_ n5_ n6_ n7_ n8_ n9_ n10_
        refine start_ (n := 24) (S := fun w' => w'.cell? ⟨gb466, 0, none⟩ = some (.int .i64 t461) ∧ w'.cell? ⟨gb466, 1, none⟩ = some (.int .i64 t462) ∧ w'.cell? ⟨gb466, 2, none⟩ = some (.slice Ao20 t463.length co20) ∧ w'.cell? ⟨gb472, 0, none⟩ = some (.int .i64 t467) ∧ w'.cell? ⟨gb472, 1, none⟩ = some (.int .i64 t468) ∧ w'.cell? ⟨gb472, 2, none⟩ = some (.slice Ao28 t469.length co28)) (ds := []) #[false, false, false, false, false, false, false, false, false, false, false, false, false, false, false, false, false, false, false, false, false, false, false, false] (by kernel_rfl) rfl rfl ⟨(blk_cell BK466.out 0).trans rfl, (blk_cell BK466.out 1).trans rfl, (blk_cell BK466.out 2).trans rfl, (blk_cell BK472.out 0).trans rfl, (blk_cell BK472.out 1).trans rfl, (blk_cell BK472.out 2).trans rfl⟩ (fun hHeld => ?_); refine with_tabW partitalaw05_MeterSame.tab7 partitalaw05_MeterSame.bits7 (fun HT_ HW_ => ?_)
        generalize w63.drew = w64 at HO465 HO471 HO477 BK458 BK459 BK466 BK472 BK478 BK482 BK486 HB hHeld ⊢
        refine take_ (i := 0) (N := some 34) (v := ?_) (a' := ?_) #[true, false, false, false, false, false, false, false, false, false, false, false, false, false, false, false, false, false, false, false, false, false, false, false] rfl rfl (take_ofW HT_.out HW_.out (by kernel_rfl)) (fun _ _ _ h => h) (Or.inl ⟨by rfl, ?_⟩) hHeld ?_ ?_
        rotate_left
        · rintro w' ⟨s0, s1, s2, s3, s4, s5⟩
          go_simp
          with_reducible rfl
        rotate_left
        · simp only [Act.put, qa_, qz_, qs_, i64_w, i32_w]
          rfl
        refine take_ (i := 1) (N := some 35) (v := ?_) (a' := ?_) #[true, true, false, false, false, false, false, false, false, false, false, false, false, false, false, false, false, false, false, false, false, false, false, false] rfl rfl (take_ofW HT_.out HW_.out (by kernel_rfl)) (fun _ _ _ h => h) (Or.inl ⟨by rfl, ?_⟩) hHeld ?_ ?_
        rotate_left
        · rintro w' ⟨s0, s1, s2, s3, s4, s5⟩
          go_simp
          with_reducible rfl
        rotate_left
        · simp only [Act.put, qa_, qz_, qs_, i64_w, i32_w]
          rfl
        refine one_ (i := 2) (N := some 36) #[true, true, true, false, false, false, false, false, false, false, false, false, false, false, false, false, false, false, false, false, false, false, false, false] rfl rfl (one_of HT_.out (by kernel_rfl)) (by decide) (fun K hK => ?_)
        refine goes_ Try.func18 (by kernel_rfl) rfl #[.agg #[.int .i64 t461, .int .i64 t462, .slice Ao20 t463.length co20], .agg #[.int .i64 t461, .int .i64 t462, .slice Ao20 t463.length co20]] (by rfl) rfl rfl (by (try simp only [List.map_toArray, List.map_cons, List.map_nil]); first | done | rfl | (simp only [List.length_drop, List.length_take]; rfl)) ?_
        with_reducible refine (meter_Same.calls k t461 t462 _ _ t463 t461 t462 _ _ t463 true _ ?side1 ?side2 ?side3 ?side4 A57.out).mono ?_
        (case side1 => repeat (first | exact (Kd.R_reads' HO465.out).2.2 | (with_reducible refine Kd.C_alloc ?_ _) | (with_reducible refine Kd.C_drewN ?_ _) | (with_reducible refine Kd.C_drew ?_)))
        (case side2 => exact (Kd.R_reads' HO465.out).2.1)
        (case side3 => repeat (first | exact (Kd.R_reads' HO465.out).2.2 | (with_reducible refine Kd.C_alloc ?_ _) | (with_reducible refine Kd.C_drewN ?_ _) | (with_reducible refine Kd.C_drew ?_)))
        (case side4 => exact (Kd.R_reads' HO465.out).2.1)
        rintro e w65 ⟨rfl, hb⟩
        refine ⟨_, rfl, ?_⟩
        have n0_ := Aside0.mk (Kd.R_below (qR HO465.out) hb)
        have n1_ := Aside0.mk (Kd.R_below (qR HO471.out) hb)
        have n2_ := Aside0.mk (Kd.R_below (qR HO477.out) hb)
        have n3_ := Aside0.mk (blk_below (qB BK458.out) hb)
        have n4_ := Aside0.mk (blk_below (qB BK459.out) hb)
        have n5_ := Aside0.mk (blk_below (qB BK466.out) hb)
        have n6_ := Aside0.mk (blk_below (qB BK472.out) hb)
        have n7_ := Aside0.mk (blk_below (qB BK478.out) hb)
        have n8_ := Aside0.mk (blk_below (qB BK482.out) hb)
        have n9_ := Aside0.mk (blk_below (qB BK486.out) hb)
        have n10_ := Aside0.mk (below_step (by repeat (first | (with_reducible first | exact HB.out | apply below_alloc | apply pw_below_drewN | apply below_drew1 | refine below_set ?_ (Aside0.out (by assumption))) | exact HB.out)) hb)
        clear HO465
        clear HO471
        clear HO477
        clear BK458
        clear BK459
        clear BK466
        clear BK472
        clear BK478
        clear BK482
        clear BK486
        clear HB
        have HO465 := n0_
        have HO471 := n1_
        have HO477 := n2_
        have BK458 := n3_
        have BK459 := n4_
        have BK466 := n5_
        have BK472 := n6_
        have BK478 := n7_
        have BK482 := n8_
        have BK486 := n9_
        have HB := n10_
        clear n0_ n1_ n2_ n3_ n4_ n5_ n6_ n7_ n8_ n9_ n10_
        (try clear hb)
        (try clear hb2)
        (try clear hk)
        (try clear hi)
        refine hK.out _ _ ⟨(blk_cell BK466.out 0).trans rfl, (blk_cell BK466.out 1).trans rfl, (blk_cell BK466.out 2).trans rfl, (blk_cell BK472.out 0).trans rfl, (blk_cell BK472.out 1).trans rfl, (blk_cell BK472.out 2).trans rfl⟩ (fun hHeld => ?_)
        clear hK K
        refine norm_ (a' := ?_) ?_ ?_
        rotate_left
        · show Act.put _ (some 36) _ = _
          simp only [Act.put, qa_, qz_, qs_, i64_w, i32_w]
          rfl
        refine pure_ (i := 3) (N := some 37) (v := ?_) (a' := ?_) #[true, true, true, true, false, false, false, false, false, false, false, false, false, false, false, false, false, false, false, false, false, false, false, false] rfl rfl (any_of HT_.out (by kernel_rfl)) (fun _ _ _ h => h) (Or.inl ⟨by rfl, ?_⟩) ?_ ?_
        rotate_left
        · intro w'
          go_simp
          with_reducible rfl
        rotate_left
        · simp only [Act.put, qa_, qz_, qs_, i64_w, i32_w]
          rfl
        refine pure_ (i := 4) (N := some 38) (v := ?_) (a' := ?_) #[true, true, true, true, true, false, false, false, false, false, false, false, false, false, false, false, false, false, false, false, false, false, false, false] rfl rfl (any_of HT_.out (by kernel_rfl)) (fun _ _ _ h => h) (Or.inl ⟨by rfl, ?_⟩) ?_ ?_
        rotate_left
        · intro w'
          go_simp
          with_reducible rfl
        rotate_left
        · simp only [Act.put, qa_, qz_, qs_, i64_w, i32_w]
          rfl
        refine take_ (i := 5) (N := some 39) (v := ?_) (a' := ?_) #[true, true, true, true, true, true, false, false, false, false, false, false, false, false, false, false, false, false, false, false, false, false, false, false] rfl rfl (take_ofW HT_.out HW_.out (by kernel_rfl)) (fun _ _ _ h => h) (Or.inl ⟨by rfl, ?_⟩) hHeld ?_ ?_
        rotate_left
        · rintro w' ⟨s0, s1, s2, s3, s4, s5⟩
          go_simp
          with_reducible rfl
        rotate_left
        · simp only [Act.put, qa_, qz_, qs_, i64_w, i32_w]
          rfl
        refine take_ (i := 6) (N := some 40) (v := ?_) (a' := ?_) #[true, true, true, true, true, true, true, false, false, false, false, false, false, false, false, false, false, false, false, false, false, false, false, false] rfl rfl (take_ofW HT_.out HW_.out (by kernel_rfl)) (fun _ _ _ h => h) (Or.inl ⟨by rfl, ?_⟩) hHeld ?_ ?_
        rotate_left
        · rintro w' ⟨s0, s1, s2, s3, s4, s5⟩
          go_simp
          with_reducible rfl
        rotate_left
        · simp only [Act.put, qa_, qz_, qs_, i64_w, i32_w]
          rfl
        refine one_ (i := 7) (N := some 41) #[true, true, true, true, true, true, true, true, false, false, false, false, false, false, false, false, false, false, false, false, false, false, false, false] rfl rfl (one_of HT_.out (by kernel_rfl)) (by decide) (fun K hK => ?_)
        refine goes_ Try.func18 (by kernel_rfl) rfl #[.agg #[.int .i64 t467, .int .i64 t468, .slice Ao28 t469.length co28], .agg #[.int .i64 t467, .int .i64 t468, .slice Ao28 t469.length co28]] (by rfl) rfl rfl (by (try simp only [List.map_toArray, List.map_cons, List.map_nil]); first | done | rfl | (simp only [List.length_drop, List.length_take]; rfl)) ?_
        with_reducible refine (meter_Same.calls k t467 t468 _ _ t469 t467 t468 _ _ t469 true _ ?side1 ?side2 ?side3 ?side4 A59.out).mono ?_
        (case side1 => repeat (first | exact (Kd.R_reads' HO471.out).2.2 | (with_reducible refine Kd.C_alloc ?_ _) | (with_reducible refine Kd.C_drewN ?_ _) | (with_reducible refine Kd.C_drew ?_)))
        (case side2 => exact (Kd.R_reads' HO471.out).2.1)
        (case side3 => repeat (first | exact (Kd.R_reads' HO471.out).2.2 | (with_reducible refine Kd.C_alloc ?_ _) | (with_reducible refine Kd.C_drewN ?_ _) | (with_reducible refine Kd.C_drew ?_)))
        (case side4 => exact (Kd.R_reads' HO471.out).2.1)
        rintro e w66 ⟨rfl, hb⟩
        refine ⟨_, rfl, ?_⟩
        have n0_ := Aside0.mk (Kd.R_below (qR HO465.out) hb)
        have n1_ := Aside0.mk (Kd.R_below (qR HO471.out) hb)
        have n2_ := Aside0.mk (Kd.R_below (qR HO477.out) hb)
        have n3_ := Aside0.mk (blk_below (qB BK458.out) hb)
        have n4_ := Aside0.mk (blk_below (qB BK459.out) hb)
        have n5_ := Aside0.mk (blk_below (qB BK466.out) hb)
        have n6_ := Aside0.mk (blk_below (qB BK472.out) hb)
        have n7_ := Aside0.mk (blk_below (qB BK478.out) hb)
        have n8_ := Aside0.mk (blk_below (qB BK482.out) hb)
        have n9_ := Aside0.mk (blk_below (qB BK486.out) hb)
        have n10_ := Aside0.mk (below_step (by repeat (first | (with_reducible first | exact HB.out | apply below_alloc | apply pw_below_drewN | apply below_drew1 | refine below_set ?_ (Aside0.out (by assumption))) | exact HB.out)) hb)
        clear HO465
        clear HO471
        clear HO477
        clear BK458
        clear BK459
        clear BK466
        clear BK472
        clear BK478
        clear BK482
        clear BK486
        clear HB
        have HO465 := n0_
        have HO471 := n1_
        have HO477 := n2_
        have BK458 := n3_
        have BK459 := n4_
        have BK466 := n5_
        have BK472 := n6_
        have BK478 := n7_
        have BK482 := n8_
        have BK486 := n9_
        have HB := n10_
        clear n0_ n1_ n2_ n3_ n4_ n5_ n6_ n7_ n8_ n9_ n10_
        (try clear hb)
        (try clear hb2)
        (try clear hk)
        (try clear hi)
        refine hK.out _ _ ⟨(blk_cell BK466.out 0).trans rfl, (blk_cell BK466.out 1).trans rfl, (blk_cell BK466.out 2).trans rfl, (blk_cell BK472.out 0).trans rfl, (blk_cell BK472.out 1).trans rfl, (blk_cell BK472.out 2).trans rfl⟩ (fun hHeld => ?_)
        clear hK K
        refine norm_ (a' := ?_) ?_ ?_
        rotate_left
        · show Act.put _ (some 41) _ = _
          simp only [Act.put, qa_, qz_, qs_, i64_w, i32_w]
          rfl
        refine pure_ (i := 8) (N := some 42) (v := ?_) (a' := ?_) #[true, true, true, true, true, true, true, true, true, false, false, false, false, false, false, false, false, false, false, false, false, false, false, false] rfl rfl (any_of HT_.out (by kernel_rfl)) (fun _ _ _ h => h) (Or.inl ⟨by rfl, ?_⟩) ?_ ?_
        rotate_left
        · intro w'
          go_simp
          with_reducible rfl
        rotate_left
        · simp only [Act.put, qa_, qz_, qs_, i64_w, i32_w]
          rfl
        refine pure_ (i := 9) (N := some 43) (v := ?_) (a' := ?_) #[true, true, true, true, true, true, true, true, true, true, false, false, false, false, false, false, false, false, false, false, false, false, false, false] rfl rfl (any_of HT_.out (by kernel_rfl)) (fun _ _ _ h => h) (Or.inl ⟨by rfl, ?_⟩) ?_ ?_
        rotate_left
        · intro w'
          go_simp
          with_reducible rfl
        rotate_left
        · simp only [Act.put, qa_, qz_, qs_, i64_w, i32_w]
          rfl
        refine pure_ (i := 10) (N := some 44) (v := ?_) (a' := ?_) #[true, true, true, true, true, true, true, true, true, true, true, false, false, false, false, false, false, false, false, false, false, false, false, false] rfl rfl (any_of HT_.out (by kernel_rfl)) (fun _ _ _ h => h) (Or.inl ⟨by rfl, ?_⟩) ?_ ?_
        rotate_left
        · intro w'
          go_simp
          with_reducible rfl
        rotate_left
        · simp only [Act.put, qa_, qz_, qs_, i64_w, i32_w]
          rfl
        refine take_ (i := 11) (N := some 45) (v := ?_) (a' := ?_) #[true, true, true, true, true, true, true, true, true, true, true, true, false, false, false, false, false, false, false, false, false, false, false, false] rfl rfl (take_ofW HT_.out HW_.out (by kernel_rfl)) (fun _ _ _ h => h) (Or.inl ⟨by rfl, ?_⟩) hHeld ?_ ?_
        rotate_left
        · rintro w' ⟨s0, s1, s2, s3, s4, s5⟩
          go_simp
          with_reducible rfl
        rotate_left
        · simp only [Act.put, qa_, qz_, qs_, i64_w, i32_w]
          rfl
        refine take_ (i := 12) (N := some 46) (v := ?_) (a' := ?_) #[true, true, true, true, true, true, true, true, true, true, true, true, true, false, false, false, false, false, false, false, false, false, false, false] rfl rfl (take_ofW HT_.out HW_.out (by kernel_rfl)) (fun _ _ _ h => h) (Or.inl ⟨by rfl, ?_⟩) hHeld ?_ ?_
        rotate_left
        · rintro w' ⟨s0, s1, s2, s3, s4, s5⟩
          go_simp
          with_reducible rfl
        rotate_left
        · simp only [Act.put, qa_, qz_, qs_, i64_w, i32_w]
          rfl
        refine one_ (i := 13) (N := some 47) #[true, true, true, true, true, true, true, true, true, true, true, true, true, true, false, false, false, false, false, false, false, false, false, false] rfl rfl (one_of HT_.out (by kernel_rfl)) (by decide) (fun K hK => ?_)
        refine goes_ Try.func18 (by kernel_rfl) rfl #[.agg #[.int .i64 t461, .int .i64 t462, .slice Ao20 t463.length co20], .agg #[.int .i64 t467, .int .i64 t468, .slice Ao28 t469.length co28]] (by rfl) rfl rfl (by (try simp only [List.map_toArray, List.map_cons, List.map_nil]); first | done | rfl | (simp only [List.length_drop, List.length_take]; rfl)) ?_
        with_reducible refine (meter_Same.calls k t461 t462 _ _ t463 t467 t468 _ _ t469 true _ ?side1 ?side2 ?side3 ?side4 A61.out).mono ?_
        (case side1 => repeat (first | exact (Kd.R_reads' HO465.out).2.2 | (with_reducible refine Kd.C_alloc ?_ _) | (with_reducible refine Kd.C_drewN ?_ _) | (with_reducible refine Kd.C_drew ?_)))
        (case side2 => exact (Kd.R_reads' HO465.out).2.1)
        (case side3 => repeat (first | exact (Kd.R_reads' HO471.out).2.2 | (with_reducible refine Kd.C_alloc ?_ _) | (with_reducible refine Kd.C_drewN ?_ _) | (with_reducible refine Kd.C_drew ?_)))
        (case side4 => exact (Kd.R_reads' HO471.out).2.1)
        rintro e w67 ⟨rfl, hb⟩
        refine ⟨_, rfl, ?_⟩
        have n0_ := Aside0.mk (Kd.R_below (qR HO465.out) hb)
        have n1_ := Aside0.mk (Kd.R_below (qR HO471.out) hb)
        have n2_ := Aside0.mk (Kd.R_below (qR HO477.out) hb)
        have n3_ := Aside0.mk (blk_below (qB BK458.out) hb)
        have n4_ := Aside0.mk (blk_below (qB BK459.out) hb)
        have n5_ := Aside0.mk (blk_below (qB BK466.out) hb)
        have n6_ := Aside0.mk (blk_below (qB BK472.out) hb)
        have n7_ := Aside0.mk (blk_below (qB BK478.out) hb)
        have n8_ := Aside0.mk (blk_below (qB BK482.out) hb)
        have n9_ := Aside0.mk (blk_below (qB BK486.out) hb)
        have n10_ := Aside0.mk (below_step (by repeat (first | (with_reducible first | exact HB.out | apply below_alloc | apply pw_below_drewN | apply below_drew1 | refine below_set ?_ (Aside0.out (by assumption))) | exact HB.out)) hb)
        clear HO465
        clear HO471
        clear HO477
        clear BK458
        clear BK459
        clear BK466
        clear BK472
        clear BK478
        clear BK482
        clear BK486
        clear HB
        have HO465 := n0_
        have HO471 := n1_
        have HO477 := n2_
        have BK458 := n3_
        have BK459 := n4_
        have BK466 := n5_
        have BK472 := n6_
        have BK478 := n7_
        have BK482 := n8_
        have BK486 := n9_
        have HB := n10_
        clear n0_ n1_ n2_ n3_ n4_ n5_ n6_ n7_ n8_ n9_ n10_
        (try clear hb)
        (try clear hb2)
        (try clear hk)
        (try clear hi)
        refine hK.out _ _ ⟨(blk_cell BK466.out 0).trans rfl, (blk_cell BK466.out 1).trans rfl, (blk_cell BK466.out 2).trans rfl, (blk_cell BK472.out 0).trans rfl, (blk_cell BK472.out 1).trans rfl, (blk_cell BK472.out 2).trans rfl⟩ (fun hHeld => ?_)
        clear hK K
        refine norm_ (a' := ?_) ?_ ?_
        rotate_left
        · show Act.put _ (some 47) _ = _
          simp only [Act.put, qa_, qz_, qs_, i64_w, i32_w]
          rfl
        refine pure_ (i := 14) (N := some 48) (v := ?_) (a' := ?_) #[true, true, true, true, true, true, true, true, true, true, true, true, true, true, true, false, false, false, false, false, false, false, false, false] rfl rfl (any_of HT_.out (by kernel_rfl)) (fun _ _ _ h => h) (Or.inl ⟨by rfl, ?_⟩) ?_ ?_
        rotate_left
        · intro w'
          go_simp
          with_reducible rfl
        rotate_left
        · simp only [Act.put, qa_, qz_, qs_, i64_w, i32_w]
          rfl
        refine pure_ (i := 15) (N := some 49) (v := ?_) (a' := ?_) #[true, true, true, true, true, true, true, true, true, true, true, true, true, true, true, true, false, false, false, false, false, false, false, false] rfl rfl (any_of HT_.out (by kernel_rfl)) (fun _ _ _ h => h) (Or.inl ⟨by rfl, ?_⟩) ?_ ?_
        rotate_left
        · intro w'
          go_simp
          with_reducible rfl
        rotate_left
        · simp only [Act.put, qa_, qz_, qs_, i64_w, i32_w]
          rfl
        refine pure_ (i := 16) (N := some 50) (v := undef) (a' := ?_) #[true, true, true, true, true, true, true, true, true, true, true, true, true, true, true, true, true, false, false, false, false, false, false, false] rfl rfl (any_of HT_.out (by kernel_rfl)) (fun _ _ _ h => h) (Or.inr ⟨by rfl, rfl⟩) ?_ ?_
        rotate_left
        · simp only [Act.put, qa_, qz_, qs_, i64_w, i32_w]
          rfl
        refine pure_ (i := 17) (N := some 51) (v := undef) (a' := ?_) #[true, true, true, true, true, true, true, true, true, true, true, true, true, true, true, true, true, true, false, false, false, false, false, false] rfl rfl (any_of HT_.out (by kernel_rfl)) (fun _ _ _ h => h) (Or.inr ⟨by rfl, rfl⟩) ?_ ?_
        rotate_left
        · simp only [Act.put, qa_, qz_, qs_, i64_w, i32_w]
          rfl
        refine pure_ (i := 18) (N := some 52) (v := undef) (a' := ?_) #[true, true, true, true, true, true, true, true, true, true, true, true, true, true, true, true, true, true, true, false, false, false, false, false] rfl rfl (any_of HT_.out (by kernel_rfl)) (fun _ _ _ h => h) (Or.inr ⟨by rfl, rfl⟩) ?_ ?_
        rotate_left
        · simp only [Act.put, qa_, qz_, qs_, i64_w, i32_w]
          rfl
        refine pure_ (i := 19) (N := some 53) (v := undef) (a' := ?_) #[true, true, true, true, true, true, true, true, true, true, true, true, true, true, true, true, true, true, true, true, false, false, false, false] rfl rfl (any_of HT_.out (by kernel_rfl)) (fun _ _ _ h => h) (Or.inr ⟨by rfl, rfl⟩) ?_ ?_
        rotate_left
        · simp only [Act.put, qa_, qz_, qs_, i64_w, i32_w]
          rfl
        refine pure_ (i := 20) (N := some 54) (v := undef) (a' := ?_) #[true, true, true, true, true, true, true, true, true, true, true, true, true, true, true, true, true, true, true, true, true, false, false, false] rfl rfl (any_of HT_.out (by kernel_rfl)) (fun _ _ _ h => h) (Or.inr ⟨by rfl, rfl⟩) ?_ ?_
        rotate_left
        · simp only [Act.put, qa_, qz_, qs_, i64_w, i32_w]
          rfl
        refine pure_ (i := 21) (N := some 55) (v := undef) (a' := ?_) #[true, true, true, true, true, true, true, true, true, true, true, true, true, true, true, true, true, true, true, true, true, true, false, false] rfl rfl (any_of HT_.out (by kernel_rfl)) (fun _ _ _ h => h) (Or.inr ⟨by rfl, rfl⟩) ?_ ?_
        rotate_left
        · simp only [Act.put, qa_, qz_, qs_, i64_w, i32_w]
          rfl
        refine pure_ (i := 22) (N := some 56) (v := undef) (a' := ?_) #[true, true, true, true, true, true, true, true, true, true, true, true, true, true, true, true, true, true, true, true, true, true, true, false] rfl rfl (any_of HT_.out (by kernel_rfl)) (fun _ _ _ h => h) (Or.inr ⟨by rfl, rfl⟩) ?_ ?_
        rotate_left
        · simp only [Act.put, qa_, qz_, qs_, i64_w, i32_w]
          rfl
        refine pure_ (i := 23) (N := some 57) (v := ?_) (a' := ?_) #[true, true, true, true, true, true, true, true, true, true, true, true, true, true, true, true, true, true, true, true, true, true, true, true] rfl rfl (any_of HT_.out (by kernel_rfl)) (fun _ _ _ h => h) (Or.inl ⟨by rfl, ?_⟩) ?_ ?_
        rotate_left
        · intro w'
          go_simp
          with_reducible rfl
        rotate_left
        · simp only [Act.put, qa_, qz_, qs_, i64_w, i32_w]
          rfl
        refine done_ (done_of HT_.out (by kernel_rfl)) ?_
        try go_wp2
        go_meet
        case rel => exact ⟨_, (true), (by first | rfl | (simp; done) | (simp [*]; done)), H', ⟨by first | omega | exact Nat.le_refl _⟩, ⟨by (with_reducible repeat (first | apply Kd.R_alloc | apply Kd.R_drewN | apply Kd.R_drew)); exact HO465.out⟩, ⟨by (with_reducible repeat (first | apply Kd.R_alloc | apply Kd.R_drewN | apply Kd.R_drew)); exact HO471.out⟩, ⟨by (with_reducible repeat (first | apply Kd.R_alloc | apply Kd.R_drewN | apply Kd.R_drew)); exact HO477.out⟩, ⟨by (with_reducible repeat (first | refine blk_drewN ?_ _ | refine blk_drew ?_ | refine blk_alloc ?_ _)); exact BK458.out⟩, ⟨by (with_reducible repeat (first | refine blk_drewN ?_ _ | refine blk_drew ?_ | refine blk_alloc ?_ _)); exact BK459.out⟩, ⟨by (with_reducible repeat (first | refine blk_drewN ?_ _ | refine blk_drew ?_ | refine blk_alloc ?_ _)); exact BK466.out⟩, ⟨by (with_reducible repeat (first | refine blk_drewN ?_ _ | refine blk_drew ?_ | refine blk_alloc ?_ _)); exact BK472.out⟩, ⟨by (with_reducible repeat (first | refine blk_drewN ?_ _ | refine blk_drew ?_ | refine blk_alloc ?_ _)); exact BK478.out⟩, ⟨by (with_reducible repeat (first | refine blk_drewN ?_ _ | refine blk_drew ?_ | refine blk_alloc ?_ _)); exact BK482.out⟩, ⟨by (with_reducible repeat (first | refine blk_drewN ?_ _ | refine blk_drew ?_ | refine blk_alloc ?_ _)); exact BK486.out⟩, ⟨by repeat (first | (with_reducible first | exact HB.out | apply below_alloc | apply pw_below_drewN | apply below_drew1 | refine below_set ?_ (Aside0.out (by assumption))) | exact HB.out)⟩⟩
      · replace c62 := Bool.eq_false_iff.mpr c62
        subst c62
        have H1 : ((meter_Same.f k t467 t468 t469 t473 t474 t475).bind fun t490 => ((meter_Same.f k t473 t474 t475 t467 t468 t469).bind fun t491 => (partitalaw05_MeterSame.j0 k t460 t481 t485 (t490 != t491) t461 t462 t463 t467 t468 t469 t479 t480 t483 t484))) = some r := by rw [if_neg (show ¬ (false = true) by decide)] at H; exact H
        clear H
        have H := H1
        clear H1
        replace H := Option.bind_eq_some_iff.mp H
        obtain ⟨t490, A680, H⟩ := H
        replace H : ((meter_Same.f k t473 t474 t475 t467 t468 t469).bind fun t491 => (partitalaw05_MeterSame.j0 k t460 t481 t485 (t490 != t491) t461 t462 t463 t467 t468 t469 t479 t480 t483 t484)) = some r := H
        have A68 := Aside0.mk A680
        clear A680
        replace H := Option.bind_eq_some_iff.mp H
        obtain ⟨t491, A690, H⟩ := H
        replace H : (partitalaw05_MeterSame.j0 k t460 t481 t485 (t490 != t491) t461 t462 t463 t467 t468 t469 t479 t480 t483 t484) = some r := H
        have A69 := Aside0.mk A690
        clear A690
        have H' := Aside0.mk H
        clear H
        try go_wp2
        have n0_ : Aside0 (Kd.R (Kd.int .i64) 3 ((w49.setCell ⟨gb486, 0, none⟩ (.int .i64 t483)).setCell ⟨gb486, 1, none⟩ (.int .i64 t484)) w.heap.size (fun k_ => some k_ ≠ (.slice Ao28 t469.length co28 : Value).ownBlock ∧ some k_ ≠ (.slice Ao37 t475.length co37 : Value).ownBlock) (.slice Ao20 t463.length co20) t463) := ⟨by (with_reducible repeat (first | apply Kd.R_alloc | apply Kd.R_drewN | apply Kd.R_drew)); exact Kd.R_mono (Kd.R_far (p := ⟨gb486, 1, none⟩) (Kd.R_far (p := ⟨gb486, 0, none⟩) (Kd.R_types HO465.out BK486.out (by decide)) (fun _ hk => hk.2) (.int .i64 t483)) (fun _ hk => hk.2) (.int .i64 t484)) (fun _ hk => ⟨hk.1.1.2, hk.1.2⟩)⟩
        have n1_ : Aside0 (Kd.R (Kd.int .i64) 3 ((w49.setCell ⟨gb486, 0, none⟩ (.int .i64 t483)).setCell ⟨gb486, 1, none⟩ (.int .i64 t484)) w.heap.size (fun k_ => some k_ ≠ (.slice Ao20 t463.length co20 : Value).ownBlock ∧ some k_ ≠ (.slice Ao37 t475.length co37 : Value).ownBlock) (.slice Ao28 t469.length co28) t469) := ⟨by (with_reducible repeat (first | apply Kd.R_alloc | apply Kd.R_drewN | apply Kd.R_drew)); exact Kd.R_mono (Kd.R_far (p := ⟨gb486, 1, none⟩) (Kd.R_far (p := ⟨gb486, 0, none⟩) (Kd.R_types HO471.out BK486.out (by decide)) (fun _ hk => hk.2) (.int .i64 t483)) (fun _ hk => hk.2) (.int .i64 t484)) (fun _ hk => ⟨hk.1.1.2, hk.1.2⟩)⟩
        have n2_ : Aside0 (Kd.R (Kd.int .i64) 3 ((w49.setCell ⟨gb486, 0, none⟩ (.int .i64 t483)).setCell ⟨gb486, 1, none⟩ (.int .i64 t484)) w.heap.size (fun k_ => some k_ ≠ (.slice Ao20 t463.length co20 : Value).ownBlock ∧ some k_ ≠ (.slice Ao28 t469.length co28 : Value).ownBlock) (.slice Ao37 t475.length co37) t475) := ⟨by (with_reducible repeat (first | apply Kd.R_alloc | apply Kd.R_drewN | apply Kd.R_drew)); exact Kd.R_mono (Kd.R_far (p := ⟨gb486, 1, none⟩) (Kd.R_far (p := ⟨gb486, 0, none⟩) (Kd.R_types HO477.out BK486.out (by decide)) (fun _ hk => hk.2) (.int .i64 t483)) (fun _ hk => hk.2) (.int .i64 t484)) (fun _ hk => ⟨hk.1.1.2, hk.1.2⟩)⟩
        have n3_ : Aside0 (((w49.setCell ⟨gb486, 0, none⟩ (.int .i64 t483)).setCell ⟨gb486, 1, none⟩ (.int .i64 t484)).heap[gb458]? = some (.cells #[.int .i64 a0_0, .int .i64 a0_1, .slice A0_2 l0_2.length c0_2] 24 (0, 0))) := ⟨by (with_reducible repeat (first | refine blk_drewN ?_ _ | refine blk_drew ?_ | refine blk_alloc ?_ _)); refine blk_far ?_ NB458_486.out _; (with_reducible repeat (first | refine blk_drewN ?_ _ | refine blk_drew ?_ | refine blk_alloc ?_ _)); refine blk_far ?_ NB458_486.out _; (with_reducible repeat (first | refine blk_drewN ?_ _ | refine blk_drew ?_ | refine blk_alloc ?_ _)); exact BK458.out⟩
        have n4_ : Aside0 (((w49.setCell ⟨gb486, 0, none⟩ (.int .i64 t483)).setCell ⟨gb486, 1, none⟩ (.int .i64 t484)).heap[gb459]? = some (.cells #[.int .i64 a1_0, .int .i64 a1_1, .slice A1_2 l1_2.length c1_2] 24 (0, 0))) := ⟨by (with_reducible repeat (first | refine blk_drewN ?_ _ | refine blk_drew ?_ | refine blk_alloc ?_ _)); refine blk_far ?_ NB459_486.out _; (with_reducible repeat (first | refine blk_drewN ?_ _ | refine blk_drew ?_ | refine blk_alloc ?_ _)); refine blk_far ?_ NB459_486.out _; (with_reducible repeat (first | refine blk_drewN ?_ _ | refine blk_drew ?_ | refine blk_alloc ?_ _)); exact BK459.out⟩
        have n5_ : Aside0 (((w49.setCell ⟨gb486, 0, none⟩ (.int .i64 t483)).setCell ⟨gb486, 1, none⟩ (.int .i64 t484)).heap[gb466]? = some (.cells #[.int .i64 t461, .int .i64 t462, .slice Ao20 t463.length co20] 24 (0, 0))) := ⟨by (with_reducible repeat (first | refine blk_drewN ?_ _ | refine blk_drew ?_ | refine blk_alloc ?_ _)); refine blk_far ?_ NB466_486.out _; (with_reducible repeat (first | refine blk_drewN ?_ _ | refine blk_drew ?_ | refine blk_alloc ?_ _)); refine blk_far ?_ NB466_486.out _; (with_reducible repeat (first | refine blk_drewN ?_ _ | refine blk_drew ?_ | refine blk_alloc ?_ _)); exact BK466.out⟩
        have n6_ : Aside0 (((w49.setCell ⟨gb486, 0, none⟩ (.int .i64 t483)).setCell ⟨gb486, 1, none⟩ (.int .i64 t484)).heap[gb472]? = some (.cells #[.int .i64 t467, .int .i64 t468, .slice Ao28 t469.length co28] 24 (0, 0))) := ⟨by (with_reducible repeat (first | refine blk_drewN ?_ _ | refine blk_drew ?_ | refine blk_alloc ?_ _)); refine blk_far ?_ NB472_486.out _; (with_reducible repeat (first | refine blk_drewN ?_ _ | refine blk_drew ?_ | refine blk_alloc ?_ _)); refine blk_far ?_ NB472_486.out _; (with_reducible repeat (first | refine blk_drewN ?_ _ | refine blk_drew ?_ | refine blk_alloc ?_ _)); exact BK472.out⟩
        have n7_ : Aside0 (((w49.setCell ⟨gb486, 0, none⟩ (.int .i64 t483)).setCell ⟨gb486, 1, none⟩ (.int .i64 t484)).heap[gb478]? = some (.cells #[.int .i64 t473, .int .i64 t474, .slice Ao37 t475.length co37] 24 (0, 0))) := ⟨by (with_reducible repeat (first | refine blk_drewN ?_ _ | refine blk_drew ?_ | refine blk_alloc ?_ _)); refine blk_far ?_ NB478_486.out _; (with_reducible repeat (first | refine blk_drewN ?_ _ | refine blk_drew ?_ | refine blk_alloc ?_ _)); refine blk_far ?_ NB478_486.out _; (with_reducible repeat (first | refine blk_drewN ?_ _ | refine blk_drew ?_ | refine blk_alloc ?_ _)); exact BK478.out⟩
        have n8_ : Aside0 (((w49.setCell ⟨gb486, 0, none⟩ (.int .i64 t483)).setCell ⟨gb486, 1, none⟩ (.int .i64 t484)).heap[gb482]? = some (.cells #[.int .i64 t479, .int .i64 t480] 26 (0, 0))) := ⟨by (with_reducible repeat (first | refine blk_drewN ?_ _ | refine blk_drew ?_ | refine blk_alloc ?_ _)); refine blk_far ?_ NB482_486.out _; (with_reducible repeat (first | refine blk_drewN ?_ _ | refine blk_drew ?_ | refine blk_alloc ?_ _)); refine blk_far ?_ NB482_486.out _; (with_reducible repeat (first | refine blk_drewN ?_ _ | refine blk_drew ?_ | refine blk_alloc ?_ _)); exact BK482.out⟩
        have n9_ : Aside0 (((w49.setCell ⟨gb486, 0, none⟩ (.int .i64 t483)).setCell ⟨gb486, 1, none⟩ (.int .i64 t484)).heap[gb486]? = some (.cells #[.int .i64 t483, .int .i64 t484] 26 (0, 0))) := ⟨by (with_reducible repeat (first | refine blk_drewN ?_ _ | refine blk_drew ?_ | refine blk_alloc ?_ _)); refine blk_put (cs := #[.int .i64 t483, .int .i64 0]) ?_ 1 _ rfl; (with_reducible repeat (first | refine blk_drewN ?_ _ | refine blk_drew ?_ | refine blk_alloc ?_ _)); refine blk_put (cs := #[.int .i64 0, .int .i64 0]) ?_ 0 _ rfl; (with_reducible repeat (first | refine blk_drewN ?_ _ | refine blk_drew ?_ | refine blk_alloc ?_ _)); exact BK486.out⟩
        have n10_ : Aside0 (Below w.heap.size w ((w49.setCell ⟨gb486, 0, none⟩ (.int .i64 t483)).setCell ⟨gb486, 1, none⟩ (.int .i64 t484))) := ⟨by repeat (first | (with_reducible first | exact HB.out | apply below_alloc | apply pw_below_drewN | apply below_drew1 | refine below_set ?_ (Aside0.out (by assumption))) | exact HB.out)⟩
        (try clear HO465)
        (try clear HO471)
        (try clear HO477)
        (try clear BK458)
        (try clear BK459)
        (try clear BK466)
        (try clear BK472)
        (try clear BK478)
        (try clear BK482)
        (try clear BK486)
        (try clear HB)
        generalize ((w49.setCell ⟨gb486, 0, none⟩ (.int .i64 t483)).setCell ⟨gb486, 1, none⟩ (.int .i64 t484)) = w70 at n0_ n1_ n2_ n3_ n4_ n5_ n6_ n7_ n8_ n9_ n10_ ⊢
        have HO465 := n0_
        have HO471 := n1_
        have HO477 := n2_
        have BK458 := n3_
        have BK459 := n4_
        have BK466 := n5_
        have BK472 := n6_
        have BK478 := n7_
        have BK482 := n8_
        have BK486 := n9_
        have HB := n10_
        clear n0_ n1_ n2_ n3_ n4_ n5_ n6_ n7_ n8_ n9_ n10_
        have n0_ := Aside0.mk (Kd.R_drew HO465.out)
        have n1_ := Aside0.mk (Kd.R_drew HO471.out)
        have n2_ := Aside0.mk (Kd.R_drew HO477.out)
        have n3_ := Aside0.mk (blk_drew BK458.out)
        have n4_ := Aside0.mk (blk_drew BK459.out)
        have n5_ := Aside0.mk (blk_drew BK466.out)
        have n6_ := Aside0.mk (blk_drew BK472.out)
        have n7_ := Aside0.mk (blk_drew BK478.out)
        have n8_ := Aside0.mk (blk_drew BK482.out)
        have n9_ := Aside0.mk (blk_drew BK486.out)
        have n10_ := Aside0.mk (below_drew1 HB.out)
        clear HO465
        clear HO471
        clear HO477
        clear BK458
        clear BK459
        clear BK466
        clear BK472
        clear BK478
        clear BK482
        clear BK486
        clear HB
        have HO465 := n0_
        have HO471 := n1_
        have HO477 := n2_
        have BK458 := n3_
        have BK459 := n4_
        have BK466 := n5_
        have BK472 := n6_
        have BK478 := n7_
        have BK482 := n8_
        have BK486 := n9_
        have HB := n10_
        clear n0_ n1_ n2_ n3_ n4_ n5_ n6_ n7_ n8_ n9_ n10_
        refine start_ (n := 24) (S := fun w' => w'.cell? ⟨gb466, 0, none⟩ = some (.int .i64 t461) ∧ w'.cell? ⟨gb466, 1, none⟩ = some (.int .i64 t462) ∧ w'.cell? ⟨gb466, 2, none⟩ = some (.slice Ao20 t463.length co20) ∧ w'.cell? ⟨gb472, 0, none⟩ = some (.int .i64 t467) ∧ w'.cell? ⟨gb472, 1, none⟩ = some (.int .i64 t468) ∧ w'.cell? ⟨gb472, 2, none⟩ = some (.slice Ao28 t469.length co28) ∧ w'.cell? ⟨gb478, 0, none⟩ = some (.int .i64 t473) ∧ w'.cell? ⟨gb478, 1, none⟩ = some (.int .i64 t474) ∧ w'.cell? ⟨gb478, 2, none⟩ = some (.slice Ao37 t475.length co37)) (ds := []) #[false, false, false, false, false, false, false, false, false, false, false, false, false, false, false, false, false, false, false, false, false, false, false, false] (by kernel_rfl) rfl rfl ⟨(blk_cell BK466.out 0).trans rfl, (blk_cell BK466.out 1).trans rfl, (blk_cell BK466.out 2).trans rfl, (blk_cell BK472.out 0).trans rfl, (blk_cell BK472.out 1).trans rfl, (blk_cell BK472.out 2).trans rfl, (blk_cell BK478.out 0).trans rfl, (blk_cell BK478.out 1).trans rfl, (blk_cell BK478.out 2).trans rfl⟩ (fun hHeld => ?_); refine with_tabW partitalaw05_MeterSame.tab7 partitalaw05_MeterSame.bits7 (fun HT_ HW_ => ?_)
        generalize w70.drew = w71 at HO465 HO471 HO477 BK458 BK459 BK466 BK472 BK478 BK482 BK486 HB hHeld ⊢
        refine take_ (i := 0) (N := some 34) (v := ?_) (a' := ?_) #[true, false, false, false, false, false, false, false, false, false, false, false, false, false, false, false, false, false, false, false, false, false, false, false] rfl rfl (take_ofW HT_.out HW_.out (by kernel_rfl)) (fun _ _ _ h => h) (Or.inl ⟨by rfl, ?_⟩) hHeld ?_ ?_
        rotate_left
        · rintro w' ⟨s0, s1, s2, s3, s4, s5, s6, s7, s8⟩
          go_simp
          with_reducible rfl
        rotate_left
        · simp only [Act.put, qa_, qz_, qs_, i64_w, i32_w]
          rfl
        refine take_ (i := 1) (N := some 35) (v := ?_) (a' := ?_) #[true, true, false, false, false, false, false, false, false, false, false, false, false, false, false, false, false, false, false, false, false, false, false, false] rfl rfl (take_ofW HT_.out HW_.out (by kernel_rfl)) (fun _ _ _ h => h) (Or.inl ⟨by rfl, ?_⟩) hHeld ?_ ?_
        rotate_left
        · rintro w' ⟨s0, s1, s2, s3, s4, s5, s6, s7, s8⟩
          go_simp
          with_reducible rfl
        rotate_left
        · simp only [Act.put, qa_, qz_, qs_, i64_w, i32_w]
          rfl
        refine one_ (i := 2) (N := some 36) #[true, true, true, false, false, false, false, false, false, false, false, false, false, false, false, false, false, false, false, false, false, false, false, false] rfl rfl (one_of HT_.out (by kernel_rfl)) (by decide) (fun K hK => ?_)
        refine goes_ Try.func18 (by kernel_rfl) rfl #[.agg #[.int .i64 t461, .int .i64 t462, .slice Ao20 t463.length co20], .agg #[.int .i64 t461, .int .i64 t462, .slice Ao20 t463.length co20]] (by rfl) rfl rfl (by (try simp only [List.map_toArray, List.map_cons, List.map_nil]); first | done | rfl | (simp only [List.length_drop, List.length_take]; rfl)) ?_
        with_reducible refine (meter_Same.calls k t461 t462 _ _ t463 t461 t462 _ _ t463 true _ ?side1 ?side2 ?side3 ?side4 A57.out).mono ?_
        (case side1 => repeat (first | exact (Kd.R_reads' HO465.out).2.2 | (with_reducible refine Kd.C_alloc ?_ _) | (with_reducible refine Kd.C_drewN ?_ _) | (with_reducible refine Kd.C_drew ?_)))
        (case side2 => exact (Kd.R_reads' HO465.out).2.1)
        (case side3 => repeat (first | exact (Kd.R_reads' HO465.out).2.2 | (with_reducible refine Kd.C_alloc ?_ _) | (with_reducible refine Kd.C_drewN ?_ _) | (with_reducible refine Kd.C_drew ?_)))
        (case side4 => exact (Kd.R_reads' HO465.out).2.1)
        rintro e w72 ⟨rfl, hb⟩
        refine ⟨_, rfl, ?_⟩
        have n0_ := Aside0.mk (Kd.R_below (qR HO465.out) hb)
        have n1_ := Aside0.mk (Kd.R_below (qR HO471.out) hb)
        have n2_ := Aside0.mk (Kd.R_below (qR HO477.out) hb)
        have n3_ := Aside0.mk (blk_below (qB BK458.out) hb)
        have n4_ := Aside0.mk (blk_below (qB BK459.out) hb)
        have n5_ := Aside0.mk (blk_below (qB BK466.out) hb)
        have n6_ := Aside0.mk (blk_below (qB BK472.out) hb)
        have n7_ := Aside0.mk (blk_below (qB BK478.out) hb)
        have n8_ := Aside0.mk (blk_below (qB BK482.out) hb)
        have n9_ := Aside0.mk (blk_below (qB BK486.out) hb)
        have n10_ := Aside0.mk (below_step (by repeat (first | (with_reducible first | exact HB.out | apply below_alloc | apply pw_below_drewN | apply below_drew1 | refine below_set ?_ (Aside0.out (by assumption))) | exact HB.out)) hb)
        clear HO465
        clear HO471
        clear HO477
        clear BK458
        clear BK459
        clear BK466
        clear BK472
        clear BK478
        clear BK482
        clear BK486
        clear HB
        have HO465 := n0_
        have HO471 := n1_
        have HO477 := n2_
        have BK458 := n3_
        have BK459 := n4_
        have BK466 := n5_
        have BK472 := n6_
        have BK478 := n7_
        have BK482 := n8_
        have BK486 := n9_
        have HB := n10_
        clear n0_ n1_ n2_ n3_ n4_ n5_ n6_ n7_ n8_ n9_ n10_
        (try clear hb)
        (try clear hb2)
        (try clear hk)
        (try clear hi)
        refine hK.out _ _ ⟨(blk_cell BK466.out 0).trans rfl, (blk_cell BK466.out 1).trans rfl, (blk_cell BK466.out 2).trans rfl, (blk_cell BK472.out 0).trans rfl, (blk_cell BK472.out 1).trans rfl, (blk_cell BK472.out 2).trans rfl, (blk_cell BK478.out 0).trans rfl, (blk_cell BK478.out 1).trans rfl, (blk_cell BK478.out 2).trans rfl⟩ (fun hHeld => ?_)
        clear hK K
        refine norm_ (a' := ?_) ?_ ?_
        rotate_left
        · show Act.put _ (some 36) _ = _
          simp only [Act.put, qa_, qz_, qs_, i64_w, i32_w]
          rfl
        refine pure_ (i := 3) (N := some 37) (v := ?_) (a' := ?_) #[true, true, true, true, false, false, false, false, false, false, false, false, false, false, false, false, false, false, false, false, false, false, false, false] rfl rfl (any_of HT_.out (by kernel_rfl)) (fun _ _ _ h => h) (Or.inl ⟨by rfl, ?_⟩) ?_ ?_
        rotate_left
        · intro w'
          go_simp
          with_reducible rfl
        rotate_left
        · simp only [Act.put, qa_, qz_, qs_, i64_w, i32_w]
          rfl
        refine pure_ (i := 4) (N := some 38) (v := ?_) (a' := ?_) #[true, true, true, true, true, false, false, false, false, false, false, false, false, false, false, false, false, false, false, false, false, false, false, false] rfl rfl (any_of HT_.out (by kernel_rfl)) (fun _ _ _ h => h) (Or.inl ⟨by rfl, ?_⟩) ?_ ?_
        rotate_left
        · intro w'
          go_simp
          with_reducible rfl
        rotate_left
        · simp only [Act.put, qa_, qz_, qs_, i64_w, i32_w]
          rfl
        refine take_ (i := 5) (N := some 39) (v := ?_) (a' := ?_) #[true, true, true, true, true, true, false, false, false, false, false, false, false, false, false, false, false, false, false, false, false, false, false, false] rfl rfl (take_ofW HT_.out HW_.out (by kernel_rfl)) (fun _ _ _ h => h) (Or.inl ⟨by rfl, ?_⟩) hHeld ?_ ?_
        rotate_left
        · rintro w' ⟨s0, s1, s2, s3, s4, s5, s6, s7, s8⟩
          go_simp
          with_reducible rfl
        rotate_left
        · simp only [Act.put, qa_, qz_, qs_, i64_w, i32_w]
          rfl
        refine take_ (i := 6) (N := some 40) (v := ?_) (a' := ?_) #[true, true, true, true, true, true, true, false, false, false, false, false, false, false, false, false, false, false, false, false, false, false, false, false] rfl rfl (take_ofW HT_.out HW_.out (by kernel_rfl)) (fun _ _ _ h => h) (Or.inl ⟨by rfl, ?_⟩) hHeld ?_ ?_
        rotate_left
        · rintro w' ⟨s0, s1, s2, s3, s4, s5, s6, s7, s8⟩
          go_simp
          with_reducible rfl
        rotate_left
        · simp only [Act.put, qa_, qz_, qs_, i64_w, i32_w]
          rfl
        refine one_ (i := 7) (N := some 41) #[true, true, true, true, true, true, true, true, false, false, false, false, false, false, false, false, false, false, false, false, false, false, false, false] rfl rfl (one_of HT_.out (by kernel_rfl)) (by decide) (fun K hK => ?_)
        refine goes_ Try.func18 (by kernel_rfl) rfl #[.agg #[.int .i64 t467, .int .i64 t468, .slice Ao28 t469.length co28], .agg #[.int .i64 t467, .int .i64 t468, .slice Ao28 t469.length co28]] (by rfl) rfl rfl (by (try simp only [List.map_toArray, List.map_cons, List.map_nil]); first | done | rfl | (simp only [List.length_drop, List.length_take]; rfl)) ?_
        with_reducible refine (meter_Same.calls k t467 t468 _ _ t469 t467 t468 _ _ t469 true _ ?side1 ?side2 ?side3 ?side4 A59.out).mono ?_
        (case side1 => repeat (first | exact (Kd.R_reads' HO471.out).2.2 | (with_reducible refine Kd.C_alloc ?_ _) | (with_reducible refine Kd.C_drewN ?_ _) | (with_reducible refine Kd.C_drew ?_)))
        (case side2 => exact (Kd.R_reads' HO471.out).2.1)
        (case side3 => repeat (first | exact (Kd.R_reads' HO471.out).2.2 | (with_reducible refine Kd.C_alloc ?_ _) | (with_reducible refine Kd.C_drewN ?_ _) | (with_reducible refine Kd.C_drew ?_)))
        (case side4 => exact (Kd.R_reads' HO471.out).2.1)
        rintro e w73 ⟨rfl, hb⟩
        refine ⟨_, rfl, ?_⟩
        have n0_ := Aside0.mk (Kd.R_below (qR HO465.out) hb)
        have n1_ := Aside0.mk (Kd.R_below (qR HO471.out) hb)
        have n2_ := Aside0.mk (Kd.R_below (qR HO477.out) hb)
        have n3_ := Aside0.mk (blk_below (qB BK458.out) hb)
        have n4_ := Aside0.mk (blk_below (qB BK459.out) hb)
        have n5_ := Aside0.mk (blk_below (qB BK466.out) hb)
        have n6_ := Aside0.mk (blk_below (qB BK472.out) hb)
        have n7_ := Aside0.mk (blk_below (qB BK478.out) hb)
        have n8_ := Aside0.mk (blk_below (qB BK482.out) hb)
        have n9_ := Aside0.mk (blk_below (qB BK486.out) hb)
        have n10_ := Aside0.mk (below_step (by repeat (first | (with_reducible first | exact HB.out | apply below_alloc | apply pw_below_drewN | apply below_drew1 | refine below_set ?_ (Aside0.out (by assumption))) | exact HB.out)) hb)
        clear HO465
        clear HO471
        clear HO477
        clear BK458
        clear BK459
        clear BK466
        clear BK472
        clear BK478
        clear BK482
        clear BK486
        clear HB
        have HO465 := n0_
        have HO471 := n1_
        have HO477 := n2_
        have BK458 := n3_
        have BK459 := n4_
        have BK466 := n5_
        have BK472 := n6_
        have BK478 := n7_
        have BK482 := n8_
        have BK486 := n9_
        have HB := n10_
        clear n0_ n1_ n2_ n3_ n4_ n5_ n6_ n7_ n8_ n9_ n10_
        (try clear hb)
        (try clear hb2)
        (try clear hk)
        (try clear hi)
        refine hK.out _ _ ⟨(blk_cell BK466.out 0).trans rfl, (blk_cell BK466.out 1).trans rfl, (blk_cell BK466.out 2).trans rfl, (blk_cell BK472.out 0).trans rfl, (blk_cell BK472.out 1).trans rfl, (blk_cell BK472.out 2).trans rfl, (blk_cell BK478.out 0).trans rfl, (blk_cell BK478.out 1).trans rfl, (blk_cell BK478.out 2).trans rfl⟩ (fun hHeld => ?_)
        clear hK K
        refine norm_ (a' := ?_) ?_ ?_
        rotate_left
        · show Act.put _ (some 41) _ = _
          simp only [Act.put, qa_, qz_, qs_, i64_w, i32_w]
          rfl
        refine pure_ (i := 8) (N := some 42) (v := ?_) (a' := ?_) #[true, true, true, true, true, true, true, true, true, false, false, false, false, false, false, false, false, false, false, false, false, false, false, false] rfl rfl (any_of HT_.out (by kernel_rfl)) (fun _ _ _ h => h) (Or.inl ⟨by rfl, ?_⟩) ?_ ?_
        rotate_left
        · intro w'
          go_simp
          with_reducible rfl
        rotate_left
        · simp only [Act.put, qa_, qz_, qs_, i64_w, i32_w]
          rfl
        refine pure_ (i := 9) (N := some 43) (v := ?_) (a' := ?_) #[true, true, true, true, true, true, true, true, true, true, false, false, false, false, false, false, false, false, false, false, false, false, false, false] rfl rfl (any_of HT_.out (by kernel_rfl)) (fun _ _ _ h => h) (Or.inl ⟨by rfl, ?_⟩) ?_ ?_
        rotate_left
        · intro w'
          go_simp
          with_reducible rfl
        rotate_left
        · simp only [Act.put, qa_, qz_, qs_, i64_w, i32_w]
          rfl
        refine pure_ (i := 10) (N := some 44) (v := ?_) (a' := ?_) #[true, true, true, true, true, true, true, true, true, true, true, false, false, false, false, false, false, false, false, false, false, false, false, false] rfl rfl (any_of HT_.out (by kernel_rfl)) (fun _ _ _ h => h) (Or.inl ⟨by rfl, ?_⟩) ?_ ?_
        rotate_left
        · intro w'
          go_simp
          with_reducible rfl
        rotate_left
        · simp only [Act.put, qa_, qz_, qs_, i64_w, i32_w]
          rfl
        refine take_ (i := 11) (N := some 45) (v := ?_) (a' := ?_) #[true, true, true, true, true, true, true, true, true, true, true, true, false, false, false, false, false, false, false, false, false, false, false, false] rfl rfl (take_ofW HT_.out HW_.out (by kernel_rfl)) (fun _ _ _ h => h) (Or.inl ⟨by rfl, ?_⟩) hHeld ?_ ?_
        rotate_left
        · rintro w' ⟨s0, s1, s2, s3, s4, s5, s6, s7, s8⟩
          go_simp
          with_reducible rfl
        rotate_left
        · simp only [Act.put, qa_, qz_, qs_, i64_w, i32_w]
          rfl
        refine take_ (i := 12) (N := some 46) (v := ?_) (a' := ?_) #[true, true, true, true, true, true, true, true, true, true, true, true, true, false, false, false, false, false, false, false, false, false, false, false] rfl rfl (take_ofW HT_.out HW_.out (by kernel_rfl)) (fun _ _ _ h => h) (Or.inl ⟨by rfl, ?_⟩) hHeld ?_ ?_
        rotate_left
        · rintro w' ⟨s0, s1, s2, s3, s4, s5, s6, s7, s8⟩
          go_simp
          with_reducible rfl
        rotate_left
        · simp only [Act.put, qa_, qz_, qs_, i64_w, i32_w]
          rfl
        refine one_ (i := 13) (N := some 47) #[true, true, true, true, true, true, true, true, true, true, true, true, true, true, false, false, false, false, false, false, false, false, false, false] rfl rfl (one_of HT_.out (by kernel_rfl)) (by decide) (fun K hK => ?_)
        refine goes_ Try.func18 (by kernel_rfl) rfl #[.agg #[.int .i64 t461, .int .i64 t462, .slice Ao20 t463.length co20], .agg #[.int .i64 t467, .int .i64 t468, .slice Ao28 t469.length co28]] (by rfl) rfl rfl (by (try simp only [List.map_toArray, List.map_cons, List.map_nil]); first | done | rfl | (simp only [List.length_drop, List.length_take]; rfl)) ?_
        with_reducible refine (meter_Same.calls k t461 t462 _ _ t463 t467 t468 _ _ t469 false _ ?side1 ?side2 ?side3 ?side4 A61.out).mono ?_
        (case side1 => repeat (first | exact (Kd.R_reads' HO465.out).2.2 | (with_reducible refine Kd.C_alloc ?_ _) | (with_reducible refine Kd.C_drewN ?_ _) | (with_reducible refine Kd.C_drew ?_)))
        (case side2 => exact (Kd.R_reads' HO465.out).2.1)
        (case side3 => repeat (first | exact (Kd.R_reads' HO471.out).2.2 | (with_reducible refine Kd.C_alloc ?_ _) | (with_reducible refine Kd.C_drewN ?_ _) | (with_reducible refine Kd.C_drew ?_)))
        (case side4 => exact (Kd.R_reads' HO471.out).2.1)
        rintro e w74 ⟨rfl, hb⟩
        refine ⟨_, rfl, ?_⟩
        have n0_ := Aside0.mk (Kd.R_below (qR HO465.out) hb)
        have n1_ := Aside0.mk (Kd.R_below (qR HO471.out) hb)
        have n2_ := Aside0.mk (Kd.R_below (qR HO477.out) hb)
        have n3_ := Aside0.mk (blk_below (qB BK458.out) hb)
        have n4_ := Aside0.mk (blk_below (qB BK459.out) hb)
        have n5_ := Aside0.mk (blk_below (qB BK466.out) hb)
        have n6_ := Aside0.mk (blk_below (qB BK472.out) hb)
        have n7_ := Aside0.mk (blk_below (qB BK478.out) hb)
        have n8_ := Aside0.mk (blk_below (qB BK482.out) hb)
        have n9_ := Aside0.mk (blk_below (qB BK486.out) hb)
        have n10_ := Aside0.mk (below_step (by repeat (first | (with_reducible first | exact HB.out | apply below_alloc | apply pw_below_drewN | apply below_drew1 | refine below_set ?_ (Aside0.out (by assumption))) | exact HB.out)) hb)
        clear HO465
        clear HO471
        clear HO477
        clear BK458
        clear BK459
        clear BK466
        clear BK472
        clear BK478
        clear BK482
        clear BK486
        clear HB
        have HO465 := n0_
        have HO471 := n1_
        have HO477 := n2_
        have BK458 := n3_
        have BK459 := n4_
        have BK466 := n5_
        have BK472 := n6_
        have BK478 := n7_
        have BK482 := n8_
        have BK486 := n9_
        have HB := n10_
        clear n0_ n1_ n2_ n3_ n4_ n5_ n6_ n7_ n8_ n9_ n10_
        (try clear hb)
        (try clear hb2)
        (try clear hk)
        (try clear hi)
        refine hK.out _ _ ⟨(blk_cell BK466.out 0).trans rfl, (blk_cell BK466.out 1).trans rfl, (blk_cell BK466.out 2).trans rfl, (blk_cell BK472.out 0).trans rfl, (blk_cell BK472.out 1).trans rfl, (blk_cell BK472.out 2).trans rfl, (blk_cell BK478.out 0).trans rfl, (blk_cell BK478.out 1).trans rfl, (blk_cell BK478.out 2).trans rfl⟩ (fun hHeld => ?_)
        clear hK K
        refine norm_ (a' := ?_) ?_ ?_
        rotate_left
        · show Act.put _ (some 47) _ = _
          simp only [Act.put, qa_, qz_, qs_, i64_w, i32_w]
          rfl
        refine pure_ (i := 14) (N := some 48) (v := ?_) (a' := ?_) #[true, true, true, true, true, true, true, true, true, true, true, true, true, true, true, false, false, false, false, false, false, false, false, false] rfl rfl (any_of HT_.out (by kernel_rfl)) (fun _ _ _ h => h) (Or.inl ⟨by rfl, ?_⟩) ?_ ?_
        rotate_left
        · intro w'
          go_simp
          with_reducible rfl
        rotate_left
        · simp only [Act.put, qa_, qz_, qs_, i64_w, i32_w]
          rfl
        refine pure_ (i := 15) (N := some 49) (v := ?_) (a' := ?_) #[true, true, true, true, true, true, true, true, true, true, true, true, true, true, true, true, false, false, false, false, false, false, false, false] rfl rfl (any_of HT_.out (by kernel_rfl)) (fun _ _ _ h => h) (Or.inl ⟨by rfl, ?_⟩) ?_ ?_
        rotate_left
        · intro w'
          go_simp
          with_reducible rfl
        rotate_left
        · simp only [Act.put, qa_, qz_, qs_, i64_w, i32_w]
          rfl
        refine take_ (i := 16) (N := some 50) (v := ?_) (a' := ?_) #[true, true, true, true, true, true, true, true, true, true, true, true, true, true, true, true, true, false, false, false, false, false, false, false] rfl rfl (take_ofW HT_.out HW_.out (by kernel_rfl)) (fun _ _ _ h => h) (Or.inl ⟨by rfl, ?_⟩) hHeld ?_ ?_
        rotate_left
        · rintro w' ⟨s0, s1, s2, s3, s4, s5, s6, s7, s8⟩
          go_simp
          with_reducible rfl
        rotate_left
        · simp only [Act.put, qa_, qz_, qs_, i64_w, i32_w]
          rfl
        refine take_ (i := 17) (N := some 51) (v := ?_) (a' := ?_) #[true, true, true, true, true, true, true, true, true, true, true, true, true, true, true, true, true, true, false, false, false, false, false, false] rfl rfl (take_ofW HT_.out HW_.out (by kernel_rfl)) (fun _ _ _ h => h) (Or.inl ⟨by rfl, ?_⟩) hHeld ?_ ?_
        rotate_left
        · rintro w' ⟨s0, s1, s2, s3, s4, s5, s6, s7, s8⟩
          go_simp
          with_reducible rfl
        rotate_left
        · simp only [Act.put, qa_, qz_, qs_, i64_w, i32_w]
          rfl
        refine take_ (i := 19) (N := some 53) (v := ?_) (a' := ?_) #[true, true, true, true, true, true, true, true, true, true, true, true, true, true, true, true, true, true, false, true, false, false, false, false] rfl rfl (take_ofW HT_.out HW_.out (by kernel_rfl)) (fun _ _ _ h => h) (Or.inl ⟨by rfl, ?_⟩) hHeld ?_ ?_
        rotate_left
        · rintro w' ⟨s0, s1, s2, s3, s4, s5, s6, s7, s8⟩
          go_simp
          with_reducible rfl
        rotate_left
        · simp only [Act.put, qa_, qz_, qs_, i64_w, i32_w]
          rfl
        refine take_ (i := 20) (N := some 54) (v := ?_) (a' := ?_) #[true, true, true, true, true, true, true, true, true, true, true, true, true, true, true, true, true, true, false, true, true, false, false, false] rfl rfl (take_ofW HT_.out HW_.out (by kernel_rfl)) (fun _ _ _ h => h) (Or.inl ⟨by rfl, ?_⟩) hHeld ?_ ?_
        rotate_left
        · rintro w' ⟨s0, s1, s2, s3, s4, s5, s6, s7, s8⟩
          go_simp
          with_reducible rfl
        rotate_left
        · simp only [Act.put, qa_, qz_, qs_, i64_w, i32_w]
          rfl
        refine one_ (i := 18) (N := some 52) #[true, true, true, true, true, true, true, true, true, true, true, true, true, true, true, true, true, true, true, true, true, false, false, false] rfl rfl (one_of HT_.out (by kernel_rfl)) (by decide) (fun K hK => ?_)
        refine goes_ Try.func18 (by kernel_rfl) rfl #[.agg #[.int .i64 t467, .int .i64 t468, .slice Ao28 t469.length co28], .agg #[.int .i64 t473, .int .i64 t474, .slice Ao37 t475.length co37]] (by rfl) rfl rfl (by (try simp only [List.map_toArray, List.map_cons, List.map_nil]); first | done | rfl | (simp only [List.length_drop, List.length_take]; rfl)) ?_
        with_reducible refine (meter_Same.calls k t467 t468 _ _ t469 t473 t474 _ _ t475 t490 _ ?side1 ?side2 ?side3 ?side4 A68.out).mono ?_
        (case side1 => repeat (first | exact (Kd.R_reads' HO471.out).2.2 | (with_reducible refine Kd.C_alloc ?_ _) | (with_reducible refine Kd.C_drewN ?_ _) | (with_reducible refine Kd.C_drew ?_)))
        (case side2 => exact (Kd.R_reads' HO471.out).2.1)
        (case side3 => repeat (first | exact (Kd.R_reads' HO477.out).2.2 | (with_reducible refine Kd.C_alloc ?_ _) | (with_reducible refine Kd.C_drewN ?_ _) | (with_reducible refine Kd.C_drew ?_)))
        (case side4 => exact (Kd.R_reads' HO477.out).2.1)
        rintro e w75 ⟨rfl, hb⟩
        refine ⟨_, rfl, ?_⟩
        have n0_ := Aside0.mk (Kd.R_below (qR HO465.out) hb)
        have n1_ := Aside0.mk (Kd.R_below (qR HO471.out) hb)
        have n2_ := Aside0.mk (Kd.R_below (qR HO477.out) hb)
        have n3_ := Aside0.mk (blk_below (qB BK458.out) hb)
        have n4_ := Aside0.mk (blk_below (qB BK459.out) hb)
        have n5_ := Aside0.mk (blk_below (qB BK466.out) hb)
        have n6_ := Aside0.mk (blk_below (qB BK472.out) hb)
        have n7_ := Aside0.mk (blk_below (qB BK478.out) hb)
        have n8_ := Aside0.mk (blk_below (qB BK482.out) hb)
        have n9_ := Aside0.mk (blk_below (qB BK486.out) hb)
        have n10_ := Aside0.mk (below_step (by repeat (first | (with_reducible first | exact HB.out | apply below_alloc | apply pw_below_drewN | apply below_drew1 | refine below_set ?_ (Aside0.out (by assumption))) | exact HB.out)) hb)
        clear HO465
        clear HO471
        clear HO477
        clear BK458
        clear BK459
        clear BK466
        clear BK472
        clear BK478
        clear BK482
        clear BK486
        clear HB
        have HO465 := n0_
        have HO471 := n1_
        have HO477 := n2_
        have BK458 := n3_
        have BK459 := n4_
        have BK466 := n5_
        have BK472 := n6_
        have BK478 := n7_
        have BK482 := n8_
        have BK486 := n9_
        have HB := n10_
        clear n0_ n1_ n2_ n3_ n4_ n5_ n6_ n7_ n8_ n9_ n10_
        (try clear hb)
        (try clear hb2)
        (try clear hk)
        (try clear hi)
        refine hK.out _ _ ⟨(blk_cell BK466.out 0).trans rfl, (blk_cell BK466.out 1).trans rfl, (blk_cell BK466.out 2).trans rfl, (blk_cell BK472.out 0).trans rfl, (blk_cell BK472.out 1).trans rfl, (blk_cell BK472.out 2).trans rfl, (blk_cell BK478.out 0).trans rfl, (blk_cell BK478.out 1).trans rfl, (blk_cell BK478.out 2).trans rfl⟩ (fun hHeld => ?_)
        clear hK K
        refine norm_ (a' := ?_) ?_ ?_
        rotate_left
        · show Act.put _ (some 52) _ = _
          simp only [Act.put, qa_, qz_, qs_, i64_w, i32_w]
          rfl
        refine one_ (i := 21) (N := some 55) #[true, true, true, true, true, true, true, true, true, true, true, true, true, true, true, true, true, true, true, true, true, true, false, false] rfl rfl (one_of HT_.out (by kernel_rfl)) (by decide) (fun K hK => ?_)
        refine goes_ Try.func18 (by kernel_rfl) rfl #[.agg #[.int .i64 t473, .int .i64 t474, .slice Ao37 t475.length co37], .agg #[.int .i64 t467, .int .i64 t468, .slice Ao28 t469.length co28]] (by rfl) rfl rfl (by (try simp only [List.map_toArray, List.map_cons, List.map_nil]); first | done | rfl | (simp only [List.length_drop, List.length_take]; rfl)) ?_
        with_reducible refine (meter_Same.calls k t473 t474 _ _ t475 t467 t468 _ _ t469 t491 _ ?side1 ?side2 ?side3 ?side4 A69.out).mono ?_
        (case side1 => repeat (first | exact (Kd.R_reads' HO477.out).2.2 | (with_reducible refine Kd.C_alloc ?_ _) | (with_reducible refine Kd.C_drewN ?_ _) | (with_reducible refine Kd.C_drew ?_)))
        (case side2 => exact (Kd.R_reads' HO477.out).2.1)
        (case side3 => repeat (first | exact (Kd.R_reads' HO471.out).2.2 | (with_reducible refine Kd.C_alloc ?_ _) | (with_reducible refine Kd.C_drewN ?_ _) | (with_reducible refine Kd.C_drew ?_)))
        (case side4 => exact (Kd.R_reads' HO471.out).2.1)
        rintro e w76 ⟨rfl, hb⟩
        refine ⟨_, rfl, ?_⟩
        have n0_ := Aside0.mk (Kd.R_below (qR HO465.out) hb)
        have n1_ := Aside0.mk (Kd.R_below (qR HO471.out) hb)
        have n2_ := Aside0.mk (Kd.R_below (qR HO477.out) hb)
        have n3_ := Aside0.mk (blk_below (qB BK458.out) hb)
        have n4_ := Aside0.mk (blk_below (qB BK459.out) hb)
        have n5_ := Aside0.mk (blk_below (qB BK466.out) hb)
        have n6_ := Aside0.mk (blk_below (qB BK472.out) hb)
        have n7_ := Aside0.mk (blk_below (qB BK478.out) hb)
        have n8_ := Aside0.mk (blk_below (qB BK482.out) hb)
        have n9_ := Aside0.mk (blk_below (qB BK486.out) hb)
        have n10_ := Aside0.mk (below_step (by repeat (first | (with_reducible first | exact HB.out | apply below_alloc | apply pw_below_drewN | apply below_drew1 | refine below_set ?_ (Aside0.out (by assumption))) | exact HB.out)) hb)
        clear HO465
        clear HO471
        clear HO477
        clear BK458
        clear BK459
        clear BK466
        clear BK472
        clear BK478
        clear BK482
        clear BK486
        clear HB
        have HO465 := n0_
        have HO471 := n1_
        have HO477 := n2_
        have BK458 := n3_
        have BK459 := n4_
        have BK466 := n5_
        have BK472 := n6_
        have BK478 := n7_
        have BK482 := n8_
        have BK486 := n9_
        have HB := n10_
        clear n0_ n1_ n2_ n3_ n4_ n5_ n6_ n7_ n8_ n9_ n10_
        (try clear hb)
        (try clear hb2)
        (try clear hk)
        (try clear hi)
        refine hK.out _ _ ⟨(blk_cell BK466.out 0).trans rfl, (blk_cell BK466.out 1).trans rfl, (blk_cell BK466.out 2).trans rfl, (blk_cell BK472.out 0).trans rfl, (blk_cell BK472.out 1).trans rfl, (blk_cell BK472.out 2).trans rfl, (blk_cell BK478.out 0).trans rfl, (blk_cell BK478.out 1).trans rfl, (blk_cell BK478.out 2).trans rfl⟩ (fun hHeld => ?_)
        clear hK K
        refine norm_ (a' := ?_) ?_ ?_
        rotate_left
        · show Act.put _ (some 55) _ = _
          simp only [Act.put, qa_, qz_, qs_, i64_w, i32_w]
          rfl
        refine pure_ (i := 22) (N := some 56) (v := ?_) (a' := ?_) #[true, true, true, true, true, true, true, true, true, true, true, true, true, true, true, true, true, true, true, true, true, true, true, false] rfl rfl (any_of HT_.out (by kernel_rfl)) (fun _ _ _ h => h) (Or.inl ⟨by rfl, ?_⟩) ?_ ?_
        rotate_left
        · intro w'
          go_simp
          with_reducible rfl
        rotate_left
        · simp only [Act.put, qa_, qz_, qs_, i64_w, i32_w]
          rfl
        refine pure_ (i := 23) (N := some 57) (v := ?_) (a' := ?_) #[true, true, true, true, true, true, true, true, true, true, true, true, true, true, true, true, true, true, true, true, true, true, true, true] rfl rfl (any_of HT_.out (by kernel_rfl)) (fun _ _ _ h => h) (Or.inl ⟨by rfl, ?_⟩) ?_ ?_
        rotate_left
        · intro w'
          go_simp
          with_reducible rfl
        rotate_left
        · simp only [Act.put, qa_, qz_, qs_, i64_w, i32_w]
          rfl
        refine done_ (done_of HT_.out (by kernel_rfl)) ?_
        try go_wp2
        go_meet
        case rel => exact ⟨_, ((t490 != t491)), (by first | rfl | (simp; done) | (simp [*]; done)), H', ⟨by first | omega | exact Nat.le_refl _⟩, ⟨by (with_reducible repeat (first | apply Kd.R_alloc | apply Kd.R_drewN | apply Kd.R_drew)); exact HO465.out⟩, ⟨by (with_reducible repeat (first | apply Kd.R_alloc | apply Kd.R_drewN | apply Kd.R_drew)); exact HO471.out⟩, ⟨by (with_reducible repeat (first | apply Kd.R_alloc | apply Kd.R_drewN | apply Kd.R_drew)); exact HO477.out⟩, ⟨by (with_reducible repeat (first | refine blk_drewN ?_ _ | refine blk_drew ?_ | refine blk_alloc ?_ _)); exact BK458.out⟩, ⟨by (with_reducible repeat (first | refine blk_drewN ?_ _ | refine blk_drew ?_ | refine blk_alloc ?_ _)); exact BK459.out⟩, ⟨by (with_reducible repeat (first | refine blk_drewN ?_ _ | refine blk_drew ?_ | refine blk_alloc ?_ _)); exact BK466.out⟩, ⟨by (with_reducible repeat (first | refine blk_drewN ?_ _ | refine blk_drew ?_ | refine blk_alloc ?_ _)); exact BK472.out⟩, ⟨by (with_reducible repeat (first | refine blk_drewN ?_ _ | refine blk_drew ?_ | refine blk_alloc ?_ _)); exact BK478.out⟩, ⟨by (with_reducible repeat (first | refine blk_drewN ?_ _ | refine blk_drew ?_ | refine blk_alloc ?_ _)); exact BK482.out⟩, ⟨by (with_reducible repeat (first | refine blk_drewN ?_ _ | refine blk_drew ?_ | refine blk_alloc ?_ _)); exact BK486.out⟩, ⟨by repeat (first | (with_reducible first | exact HB.out | apply below_alloc | apply pw_below_drewN | apply below_drew1 | refine below_set ?_ (Aside0.out (by assumption))) | exact HB.out)⟩⟩
    · replace c60 := Bool.eq_false_iff.mpr c60
      subst c60
      have H1 : (partitalaw05_MeterSame.j0 k t460 t481 t485 true t461 t462 t463 t467 t468 t469 t479 t480 t483 t484) = some r := by rw [if_neg (show ¬ (false = true) by decide)] at H; exact H
      clear H
      have H := H1
      clear H1
      have H' := Aside0.mk H
      clear H
      try go_wp2
      have n0_ : Aside0 (Kd.R (Kd.int .i64) 3 ((w49.setCell ⟨gb486, 0, none⟩ (.int .i64 t483)).setCell ⟨gb486, 1, none⟩ (.int .i64 t484)) w.heap.size (fun k_ => some k_ ≠ (.slice Ao28 t469.length co28 : Value).ownBlock ∧ some k_ ≠ (.slice Ao37 t475.length co37 : Value).ownBlock) (.slice Ao20 t463.length co20) t463) := ⟨by (with_reducible repeat (first | apply Kd.R_alloc | apply Kd.R_drewN | apply Kd.R_drew)); exact Kd.R_mono (Kd.R_far (p := ⟨gb486, 1, none⟩) (Kd.R_far (p := ⟨gb486, 0, none⟩) (Kd.R_types HO465.out BK486.out (by decide)) (fun _ hk => hk.2) (.int .i64 t483)) (fun _ hk => hk.2) (.int .i64 t484)) (fun _ hk => ⟨hk.1.1.2, hk.1.2⟩)⟩
      have n1_ : Aside0 (Kd.R (Kd.int .i64) 3 ((w49.setCell ⟨gb486, 0, none⟩ (.int .i64 t483)).setCell ⟨gb486, 1, none⟩ (.int .i64 t484)) w.heap.size (fun k_ => some k_ ≠ (.slice Ao20 t463.length co20 : Value).ownBlock ∧ some k_ ≠ (.slice Ao37 t475.length co37 : Value).ownBlock) (.slice Ao28 t469.length co28) t469) := ⟨by (with_reducible repeat (first | apply Kd.R_alloc | apply Kd.R_drewN | apply Kd.R_drew)); exact Kd.R_mono (Kd.R_far (p := ⟨gb486, 1, none⟩) (Kd.R_far (p := ⟨gb486, 0, none⟩) (Kd.R_types HO471.out BK486.out (by decide)) (fun _ hk => hk.2) (.int .i64 t483)) (fun _ hk => hk.2) (.int .i64 t484)) (fun _ hk => ⟨hk.1.1.2, hk.1.2⟩)⟩
      have n2_ : Aside0 (Kd.R (Kd.int .i64) 3 ((w49.setCell ⟨gb486, 0, none⟩ (.int .i64 t483)).setCell ⟨gb486, 1, none⟩ (.int .i64 t484)) w.heap.size (fun k_ => some k_ ≠ (.slice Ao20 t463.length co20 : Value).ownBlock ∧ some k_ ≠ (.slice Ao28 t469.length co28 : Value).ownBlock) (.slice Ao37 t475.length co37) t475) := ⟨by (with_reducible repeat (first | apply Kd.R_alloc | apply Kd.R_drewN | apply Kd.R_drew)); exact Kd.R_mono (Kd.R_far (p := ⟨gb486, 1, none⟩) (Kd.R_far (p := ⟨gb486, 0, none⟩) (Kd.R_types HO477.out BK486.out (by decide)) (fun _ hk => hk.2) (.int .i64 t483)) (fun _ hk => hk.2) (.int .i64 t484)) (fun _ hk => ⟨hk.1.1.2, hk.1.2⟩)⟩
      have n3_ : Aside0 (((w49.setCell ⟨gb486, 0, none⟩ (.int .i64 t483)).setCell ⟨gb486, 1, none⟩ (.int .i64 t484)).heap[gb458]? = some (.cells #[.int .i64 a0_0, .int .i64 a0_1, .slice A0_2 l0_2.length c0_2] 24 (0, 0))) := ⟨by (with_reducible repeat (first | refine blk_drewN ?_ _ | refine blk_drew ?_ | refine blk_alloc ?_ _)); refine blk_far ?_ NB458_486.out _; (with_reducible repeat (first | refine blk_drewN ?_ _ | refine blk_drew ?_ | refine blk_alloc ?_ _)); refine blk_far ?_ NB458_486.out _; (with_reducible repeat (first | refine blk_drewN ?_ _ | refine blk_drew ?_ | refine blk_alloc ?_ _)); exact BK458.out⟩
      have n4_ : Aside0 (((w49.setCell ⟨gb486, 0, none⟩ (.int .i64 t483)).setCell ⟨gb486, 1, none⟩ (.int .i64 t484)).heap[gb459]? = some (.cells #[.int .i64 a1_0, .int .i64 a1_1, .slice A1_2 l1_2.length c1_2] 24 (0, 0))) := ⟨by (with_reducible repeat (first | refine blk_drewN ?_ _ | refine blk_drew ?_ | refine blk_alloc ?_ _)); refine blk_far ?_ NB459_486.out _; (with_reducible repeat (first | refine blk_drewN ?_ _ | refine blk_drew ?_ | refine blk_alloc ?_ _)); refine blk_far ?_ NB459_486.out _; (with_reducible repeat (first | refine blk_drewN ?_ _ | refine blk_drew ?_ | refine blk_alloc ?_ _)); exact BK459.out⟩
      have n5_ : Aside0 (((w49.setCell ⟨gb486, 0, none⟩ (.int .i64 t483)).setCell ⟨gb486, 1, none⟩ (.int .i64 t484)).heap[gb466]? = some (.cells #[.int .i64 t461, .int .i64 t462, .slice Ao20 t463.length co20] 24 (0, 0))) := ⟨by (with_reducible repeat (first | refine blk_drewN ?_ _ | refine blk_drew ?_ | refine blk_alloc ?_ _)); refine blk_far ?_ NB466_486.out _; (with_reducible repeat (first | refine blk_drewN ?_ _ | refine blk_drew ?_ | refine blk_alloc ?_ _)); refine blk_far ?_ NB466_486.out _; (with_reducible repeat (first | refine blk_drewN ?_ _ | refine blk_drew ?_ | refine blk_alloc ?_ _)); exact BK466.out⟩
      have n6_ : Aside0 (((w49.setCell ⟨gb486, 0, none⟩ (.int .i64 t483)).setCell ⟨gb486, 1, none⟩ (.int .i64 t484)).heap[gb472]? = some (.cells #[.int .i64 t467, .int .i64 t468, .slice Ao28 t469.length co28] 24 (0, 0))) := ⟨by (with_reducible repeat (first | refine blk_drewN ?_ _ | refine blk_drew ?_ | refine blk_alloc ?_ _)); refine blk_far ?_ NB472_486.out _; (with_reducible repeat (first | refine blk_drewN ?_ _ | refine blk_drew ?_ | refine blk_alloc ?_ _)); refine blk_far ?_ NB472_486.out _; (with_reducible repeat (first | refine blk_drewN ?_ _ | refine blk_drew ?_ | refine blk_alloc ?_ _)); exact BK472.out⟩
      have n7_ : Aside0 (((w49.setCell ⟨gb486, 0, none⟩ (.int .i64 t483)).setCell ⟨gb486, 1, none⟩ (.int .i64 t484)).heap[gb478]? = some (.cells #[.int .i64 t473, .int .i64 t474, .slice Ao37 t475.length co37] 24 (0, 0))) := ⟨by (with_reducible repeat (first | refine blk_drewN ?_ _ | refine blk_drew ?_ | refine blk_alloc ?_ _)); refine blk_far ?_ NB478_486.out _; (with_reducible repeat (first | refine blk_drewN ?_ _ | refine blk_drew ?_ | refine blk_alloc ?_ _)); refine blk_far ?_ NB478_486.out _; (with_reducible repeat (first | refine blk_drewN ?_ _ | refine blk_drew ?_ | refine blk_alloc ?_ _)); exact BK478.out⟩
      have n8_ : Aside0 (((w49.setCell ⟨gb486, 0, none⟩ (.int .i64 t483)).setCell ⟨gb486, 1, none⟩ (.int .i64 t484)).heap[gb482]? = some (.cells #[.int .i64 t479, .int .i64 t480] 26 (0, 0))) := ⟨by (with_reducible repeat (first | refine blk_drewN ?_ _ | refine blk_drew ?_ | refine blk_alloc ?_ _)); refine blk_far ?_ NB482_486.out _; (with_reducible repeat (first | refine blk_drewN ?_ _ | refine blk_drew ?_ | refine blk_alloc ?_ _)); refine blk_far ?_ NB482_486.out _; (with_reducible repeat (first | refine blk_drewN ?_ _ | refine blk_drew ?_ | refine blk_alloc ?_ _)); exact BK482.out⟩
      have n9_ : Aside0 (((w49.setCell ⟨gb486, 0, none⟩ (.int .i64 t483)).setCell ⟨gb486, 1, none⟩ (.int .i64 t484)).heap[gb486]? = some (.cells #[.int .i64 t483, .int .i64 t484] 26 (0, 0))) := ⟨by (with_reducible repeat (first | refine blk_drewN ?_ _ | refine blk_drew ?_ | refine blk_alloc ?_ _)); refine blk_put (cs := #[.int .i64 t483, .int .i64 0]) ?_ 1 _ rfl; (with_reducible repeat (first | refine blk_drewN ?_ _ | refine blk_drew ?_ | refine blk_alloc ?_ _)); refine blk_put (cs := #[.int .i64 0, .int .i64 0]) ?_ 0 _ rfl; (with_reducible repeat (first | refine blk_drewN ?_ _ | refine blk_drew ?_ | refine blk_alloc ?_ _)); exact BK486.out⟩
      have n10_ : Aside0 (Below w.heap.size w ((w49.setCell ⟨gb486, 0, none⟩ (.int .i64 t483)).setCell ⟨gb486, 1, none⟩ (.int .i64 t484))) := ⟨by repeat (first | (with_reducible first | exact HB.out | apply below_alloc | apply pw_below_drewN | apply below_drew1 | refine below_set ?_ (Aside0.out (by assumption))) | exact HB.out)⟩
      (try clear HO465)
      (try clear HO471)
      (try clear HO477)
      (try clear BK458)
      (try clear BK459)
      (try clear BK466)
      (try clear BK472)
      (try clear BK478)
      (try clear BK482)
      (try clear BK486)
      (try clear HB)
      generalize ((w49.setCell ⟨gb486, 0, none⟩ (.int .i64 t483)).setCell ⟨gb486, 1, none⟩ (.int .i64 t484)) = w77 at n0_ n1_ n2_ n3_ n4_ n5_ n6_ n7_ n8_ n9_ n10_ ⊢
      have HO465 := n0_
      have HO471 := n1_
      have HO477 := n2_
      have BK458 := n3_
      have BK459 := n4_
      have BK466 := n5_
      have BK472 := n6_
      have BK478 := n7_
      have BK482 := n8_
      have BK486 := n9_
      have HB := n10_
      clear n0_ n1_ n2_ n3_ n4_ n5_ n6_ n7_ n8_ n9_ n10_
      have n0_ := Aside0.mk (Kd.R_drew HO465.out)
      have n1_ := Aside0.mk (Kd.R_drew HO471.out)
      have n2_ := Aside0.mk (Kd.R_drew HO477.out)
      have n3_ := Aside0.mk (blk_drew BK458.out)
      have n4_ := Aside0.mk (blk_drew BK459.out)
      have n5_ := Aside0.mk (blk_drew BK466.out)
      have n6_ := Aside0.mk (blk_drew BK472.out)
      have n7_ := Aside0.mk (blk_drew BK478.out)
      have n8_ := Aside0.mk (blk_drew BK482.out)
      have n9_ := Aside0.mk (blk_drew BK486.out)
      have n10_ := Aside0.mk (below_drew1 HB.out)
      clear HO465
      clear HO471
      clear HO477
      clear BK458
      clear BK459
      clear BK466
      clear BK472
      clear BK478
      clear BK482
      clear BK486
      clear HB
      have HO465 := n0_
      have HO471 := n1_
      have HO477 := n2_
      have BK458 := n3_
      have BK459 := n4_
      have BK466 := n5_
      have BK472 := n6_
      have BK478 := n7_
      have BK482 := n8_
      have BK486 := n9_
      have HB := n10_
      clear n0_ n1_ n2_ n3_ n4_ n5_ n6_ n7_ n8_ n9_ n10_
      refine start_ (n := 24) (S := fun w' => w'.cell? ⟨gb466, 0, none⟩ = some (.int .i64 t461) ∧ w'.cell? ⟨gb466, 1, none⟩ = some (.int .i64 t462) ∧ w'.cell? ⟨gb466, 2, none⟩ = some (.slice Ao20 t463.length co20) ∧ w'.cell? ⟨gb472, 0, none⟩ = some (.int .i64 t467) ∧ w'.cell? ⟨gb472, 1, none⟩ = some (.int .i64 t468) ∧ w'.cell? ⟨gb472, 2, none⟩ = some (.slice Ao28 t469.length co28)) (ds := []) #[false, false, false, false, false, false, false, false, false, false, false, false, false, false, false, false, false, false, false, false, false, false, false, false] (by kernel_rfl) rfl rfl ⟨(blk_cell BK466.out 0).trans rfl, (blk_cell BK466.out 1).trans rfl, (blk_cell BK466.out 2).trans rfl, (blk_cell BK472.out 0).trans rfl, (blk_cell BK472.out 1).trans rfl, (blk_cell BK472.out 2).trans rfl⟩ (fun hHeld => ?_); refine with_tabW partitalaw05_MeterSame.tab7 partitalaw05_MeterSame.bits7 (fun HT_ HW_ => ?_)
      generalize w77.drew = w78 at HO465 HO471 HO477 BK458 BK459 BK466 BK472 BK478 BK482 BK486 HB hHeld ⊢
      refine take_ (i := 0) (N := some 34) (v := ?_) (a' := ?_) #[true, false, false, false, false, false, false, false, false, false, false, false, false, false, false, false, false, false, false, false, false, false, false, false] rfl rfl (take_ofW HT_.out HW_.out (by kernel_rfl)) (fun _ _ _ h => h) (Or.inl ⟨by rfl, ?_⟩) hHeld ?_ ?_
      rotate_left
      · rintro w' ⟨s0, s1, s2, s3, s4, s5⟩
        go_simp
        with_reducible rfl
      rotate_left
      · simp only [Act.put, qa_, qz_, qs_, i64_w, i32_w]
        rfl
      refine take_ (i := 1) (N := some 35) (v := ?_) (a' := ?_) #[true, true, false, false, false, false, false, false, false, false, false, false, false, false, false, false, false, false, false, false, false, false, false, false] rfl rfl (take_ofW HT_.out HW_.out (by kernel_rfl)) (fun _ _ _ h => h) (Or.inl ⟨by rfl, ?_⟩) hHeld ?_ ?_
      rotate_left
      · rintro w' ⟨s0, s1, s2, s3, s4, s5⟩
        go_simp
        with_reducible rfl
      rotate_left
      · simp only [Act.put, qa_, qz_, qs_, i64_w, i32_w]
        rfl
      refine one_ (i := 2) (N := some 36) #[true, true, true, false, false, false, false, false, false, false, false, false, false, false, false, false, false, false, false, false, false, false, false, false] rfl rfl (one_of HT_.out (by kernel_rfl)) (by decide) (fun K hK => ?_)
      refine goes_ Try.func18 (by kernel_rfl) rfl #[.agg #[.int .i64 t461, .int .i64 t462, .slice Ao20 t463.length co20], .agg #[.int .i64 t461, .int .i64 t462, .slice Ao20 t463.length co20]] (by rfl) rfl rfl (by (try simp only [List.map_toArray, List.map_cons, List.map_nil]); first | done | rfl | (simp only [List.length_drop, List.length_take]; rfl)) ?_
      with_reducible refine (meter_Same.calls k t461 t462 _ _ t463 t461 t462 _ _ t463 true _ ?side1 ?side2 ?side3 ?side4 A57.out).mono ?_
      (case side1 => repeat (first | exact (Kd.R_reads' HO465.out).2.2 | (with_reducible refine Kd.C_alloc ?_ _) | (with_reducible refine Kd.C_drewN ?_ _) | (with_reducible refine Kd.C_drew ?_)))
      (case side2 => exact (Kd.R_reads' HO465.out).2.1)
      (case side3 => repeat (first | exact (Kd.R_reads' HO465.out).2.2 | (with_reducible refine Kd.C_alloc ?_ _) | (with_reducible refine Kd.C_drewN ?_ _) | (with_reducible refine Kd.C_drew ?_)))
      (case side4 => exact (Kd.R_reads' HO465.out).2.1)
      rintro e w79 ⟨rfl, hb⟩
      refine ⟨_, rfl, ?_⟩
      have n0_ := Aside0.mk (Kd.R_below (qR HO465.out) hb)
      have n1_ := Aside0.mk (Kd.R_below (qR HO471.out) hb)
      have n2_ := Aside0.mk (Kd.R_below (qR HO477.out) hb)
      have n3_ := Aside0.mk (blk_below (qB BK458.out) hb)
      have n4_ := Aside0.mk (blk_below (qB BK459.out) hb)
      have n5_ := Aside0.mk (blk_below (qB BK466.out) hb)
      have n6_ := Aside0.mk (blk_below (qB BK472.out) hb)
      have n7_ := Aside0.mk (blk_below (qB BK478.out) hb)
      have n8_ := Aside0.mk (blk_below (qB BK482.out) hb)
      have n9_ := Aside0.mk (blk_below (qB BK486.out) hb)
      have n10_ := Aside0.mk (below_step (by repeat (first | (with_reducible first | exact HB.out | apply below_alloc | apply pw_below_drewN | apply below_drew1 | refine below_set ?_ (Aside0.out (by assumption))) | exact HB.out)) hb)
      clear HO465
      clear HO471
      clear HO477
      clear BK458
      clear BK459
      clear BK466
      clear BK472
      clear BK478
      clear BK482
      clear BK486
      clear HB
      have HO465 := n0_
      have HO471 := n1_
      have HO477 := n2_
      have BK458 := n3_
      have BK459 := n4_
      have BK466 := n5_
      have BK472 := n6_
      have BK478 := n7_
      have BK482 := n8_
      have BK486 := n9_
      have HB := n10_
      clear n0_ n1_ n2_ n3_ n4_ n5_ n6_ n7_ n8_ n9_ n10_
      (try clear hb)
      (try clear hb2)
      (try clear hk)
      (try clear hi)
      refine hK.out _ _ ⟨(blk_cell BK466.out 0).trans rfl, (blk_cell BK466.out 1).trans rfl, (blk_cell BK466.out 2).trans rfl, (blk_cell BK472.out 0).trans rfl, (blk_cell BK472.out 1).trans rfl, (blk_cell BK472.out 2).trans rfl⟩ (fun hHeld => ?_)
      clear hK K
      refine norm_ (a' := ?_) ?_ ?_
      rotate_left
      · show Act.put _ (some 36) _ = _
        simp only [Act.put, qa_, qz_, qs_, i64_w, i32_w]
        rfl
      refine pure_ (i := 3) (N := some 37) (v := ?_) (a' := ?_) #[true, true, true, true, false, false, false, false, false, false, false, false, false, false, false, false, false, false, false, false, false, false, false, false] rfl rfl (any_of HT_.out (by kernel_rfl)) (fun _ _ _ h => h) (Or.inl ⟨by rfl, ?_⟩) ?_ ?_
      rotate_left
      · intro w'
        go_simp
        with_reducible rfl
      rotate_left
      · simp only [Act.put, qa_, qz_, qs_, i64_w, i32_w]
        rfl
      refine pure_ (i := 4) (N := some 38) (v := ?_) (a' := ?_) #[true, true, true, true, true, false, false, false, false, false, false, false, false, false, false, false, false, false, false, false, false, false, false, false] rfl rfl (any_of HT_.out (by kernel_rfl)) (fun _ _ _ h => h) (Or.inl ⟨by rfl, ?_⟩) ?_ ?_
      rotate_left
      · intro w'
        go_simp
        with_reducible rfl
      rotate_left
      · simp only [Act.put, qa_, qz_, qs_, i64_w, i32_w]
        rfl
      refine take_ (i := 5) (N := some 39) (v := ?_) (a' := ?_) #[true, true, true, true, true, true, false, false, false, false, false, false, false, false, false, false, false, false, false, false, false, false, false, false] rfl rfl (take_ofW HT_.out HW_.out (by kernel_rfl)) (fun _ _ _ h => h) (Or.inl ⟨by rfl, ?_⟩) hHeld ?_ ?_
      rotate_left
      · rintro w' ⟨s0, s1, s2, s3, s4, s5⟩
        go_simp
        with_reducible rfl
      rotate_left
      · simp only [Act.put, qa_, qz_, qs_, i64_w, i32_w]
        rfl
      refine take_ (i := 6) (N := some 40) (v := ?_) (a' := ?_) #[true, true, true, true, true, true, true, false, false, false, false, false, false, false, false, false, false, false, false, false, false, false, false, false] rfl rfl (take_ofW HT_.out HW_.out (by kernel_rfl)) (fun _ _ _ h => h) (Or.inl ⟨by rfl, ?_⟩) hHeld ?_ ?_
      rotate_left
      · rintro w' ⟨s0, s1, s2, s3, s4, s5⟩
        go_simp
        with_reducible rfl
      rotate_left
      · simp only [Act.put, qa_, qz_, qs_, i64_w, i32_w]
        rfl
      refine one_ (i := 7) (N := some 41) #[true, true, true, true, true, true, true, true, false, false, false, false, false, false, false, false, false, false, false, false, false, false, false, false] rfl rfl (one_of HT_.out (by kernel_rfl)) (by decide) (fun K hK => ?_)
      refine goes_ Try.func18 (by kernel_rfl) rfl #[.agg #[.int .i64 t467, .int .i64 t468, .slice Ao28 t469.length co28], .agg #[.int .i64 t467, .int .i64 t468, .slice Ao28 t469.length co28]] (by rfl) rfl rfl (by (try simp only [List.map_toArray, List.map_cons, List.map_nil]); first | done | rfl | (simp only [List.length_drop, List.length_take]; rfl)) ?_
      with_reducible refine (meter_Same.calls k t467 t468 _ _ t469 t467 t468 _ _ t469 false _ ?side1 ?side2 ?side3 ?side4 A59.out).mono ?_
      (case side1 => repeat (first | exact (Kd.R_reads' HO471.out).2.2 | (with_reducible refine Kd.C_alloc ?_ _) | (with_reducible refine Kd.C_drewN ?_ _) | (with_reducible refine Kd.C_drew ?_)))
      (case side2 => exact (Kd.R_reads' HO471.out).2.1)
      (case side3 => repeat (first | exact (Kd.R_reads' HO471.out).2.2 | (with_reducible refine Kd.C_alloc ?_ _) | (with_reducible refine Kd.C_drewN ?_ _) | (with_reducible refine Kd.C_drew ?_)))
      (case side4 => exact (Kd.R_reads' HO471.out).2.1)
      rintro e w80 ⟨rfl, hb⟩
      refine ⟨_, rfl, ?_⟩
      have n0_ := Aside0.mk (Kd.R_below (qR HO465.out) hb)
      have n1_ := Aside0.mk (Kd.R_below (qR HO471.out) hb)
      have n2_ := Aside0.mk (Kd.R_below (qR HO477.out) hb)
      have n3_ := Aside0.mk (blk_below (qB BK458.out) hb)
      have n4_ := Aside0.mk (blk_below (qB BK459.out) hb)
      have n5_ := Aside0.mk (blk_below (qB BK466.out) hb)
      have n6_ := Aside0.mk (blk_below (qB BK472.out) hb)
      have n7_ := Aside0.mk (blk_below (qB BK478.out) hb)
      have n8_ := Aside0.mk (blk_below (qB BK482.out) hb)
      have n9_ := Aside0.mk (blk_below (qB BK486.out) hb)
      have n10_ := Aside0.mk (below_step (by repeat (first | (with_reducible first | exact HB.out | apply below_alloc | apply pw_below_drewN | apply below_drew1 | refine below_set ?_ (Aside0.out (by assumption))) | exact HB.out)) hb)
      clear HO465
      clear HO471
      clear HO477
      clear BK458
      clear BK459
      clear BK466
      clear BK472
      clear BK478
      clear BK482
      clear BK486
      clear HB
      have HO465 := n0_
      have HO471 := n1_
      have HO477 := n2_
      have BK458 := n3_
      have BK459 := n4_
      have BK466 := n5_
      have BK472 := n6_
      have BK478 := n7_
      have BK482 := n8_
      have BK486 := n9_
      have HB := n10_
      clear n0_ n1_ n2_ n3_ n4_ n5_ n6_ n7_ n8_ n9_ n10_
      (try clear hb)
      (try clear hb2)
      (try clear hk)
      (try clear hi)
      refine hK.out _ _ ⟨(blk_cell BK466.out 0).trans rfl, (blk_cell BK466.out 1).trans rfl, (blk_cell BK466.out 2).trans rfl, (blk_cell BK472.out 0).trans rfl, (blk_cell BK472.out 1).trans rfl, (blk_cell BK472.out 2).trans rfl⟩ (fun hHeld => ?_)
      clear hK K
      refine norm_ (a' := ?_) ?_ ?_
      rotate_left
      · show Act.put _ (some 41) _ = _
        simp only [Act.put, qa_, qz_, qs_, i64_w, i32_w]
        rfl
      refine pure_ (i := 8) (N := some 42) (v := ?_) (a' := ?_) #[true, true, true, true, true, true, true, true, true, false, false, false, false, false, false, false, false, false, false, false, false, false, false, false] rfl rfl (any_of HT_.out (by kernel_rfl)) (fun _ _ _ h => h) (Or.inl ⟨by rfl, ?_⟩) ?_ ?_
      rotate_left
      · intro w'
        go_simp
        with_reducible rfl
      rotate_left
      · simp only [Act.put, qa_, qz_, qs_, i64_w, i32_w]
        rfl
      refine pure_ (i := 9) (N := some 43) (v := ?_) (a' := ?_) #[true, true, true, true, true, true, true, true, true, true, false, false, false, false, false, false, false, false, false, false, false, false, false, false] rfl rfl (any_of HT_.out (by kernel_rfl)) (fun _ _ _ h => h) (Or.inl ⟨by rfl, ?_⟩) ?_ ?_
      rotate_left
      · intro w'
        go_simp
        with_reducible rfl
      rotate_left
      · simp only [Act.put, qa_, qz_, qs_, i64_w, i32_w]
        rfl
      refine pure_ (i := 10) (N := some 44) (v := ?_) (a' := ?_) #[true, true, true, true, true, true, true, true, true, true, true, false, false, false, false, false, false, false, false, false, false, false, false, false] rfl rfl (any_of HT_.out (by kernel_rfl)) (fun _ _ _ h => h) (Or.inl ⟨by rfl, ?_⟩) ?_ ?_
      rotate_left
      · intro w'
        go_simp
        with_reducible rfl
      rotate_left
      · simp only [Act.put, qa_, qz_, qs_, i64_w, i32_w]
        rfl
      refine pure_ (i := 11) (N := some 45) (v := undef) (a' := ?_) #[true, true, true, true, true, true, true, true, true, true, true, true, false, false, false, false, false, false, false, false, false, false, false, false] rfl rfl (any_of HT_.out (by kernel_rfl)) (fun _ _ _ h => h) (Or.inr ⟨by rfl, rfl⟩) ?_ ?_
      rotate_left
      · simp only [Act.put, qa_, qz_, qs_, i64_w, i32_w]
        rfl
      refine pure_ (i := 12) (N := some 46) (v := undef) (a' := ?_) #[true, true, true, true, true, true, true, true, true, true, true, true, true, false, false, false, false, false, false, false, false, false, false, false] rfl rfl (any_of HT_.out (by kernel_rfl)) (fun _ _ _ h => h) (Or.inr ⟨by rfl, rfl⟩) ?_ ?_
      rotate_left
      · simp only [Act.put, qa_, qz_, qs_, i64_w, i32_w]
        rfl
      refine pure_ (i := 13) (N := some 47) (v := undef) (a' := ?_) #[true, true, true, true, true, true, true, true, true, true, true, true, true, true, false, false, false, false, false, false, false, false, false, false] rfl rfl (any_of HT_.out (by kernel_rfl)) (fun _ _ _ h => h) (Or.inr ⟨by rfl, rfl⟩) ?_ ?_
      rotate_left
      · simp only [Act.put, qa_, qz_, qs_, i64_w, i32_w]
        rfl
      refine pure_ (i := 14) (N := some 48) (v := ?_) (a' := ?_) #[true, true, true, true, true, true, true, true, true, true, true, true, true, true, true, false, false, false, false, false, false, false, false, false] rfl rfl (any_of HT_.out (by kernel_rfl)) (fun _ _ _ h => h) (Or.inl ⟨by rfl, ?_⟩) ?_ ?_
      rotate_left
      · intro w'
        go_simp
        with_reducible rfl
      rotate_left
      · simp only [Act.put, qa_, qz_, qs_, i64_w, i32_w]
        rfl
      refine pure_ (i := 15) (N := some 49) (v := ?_) (a' := ?_) #[true, true, true, true, true, true, true, true, true, true, true, true, true, true, true, true, false, false, false, false, false, false, false, false] rfl rfl (any_of HT_.out (by kernel_rfl)) (fun _ _ _ h => h) (Or.inl ⟨by rfl, ?_⟩) ?_ ?_
      rotate_left
      · intro w'
        go_simp
        with_reducible rfl
      rotate_left
      · simp only [Act.put, qa_, qz_, qs_, i64_w, i32_w]
        rfl
      refine pure_ (i := 16) (N := some 50) (v := undef) (a' := ?_) #[true, true, true, true, true, true, true, true, true, true, true, true, true, true, true, true, true, false, false, false, false, false, false, false] rfl rfl (any_of HT_.out (by kernel_rfl)) (fun _ _ _ h => h) (Or.inr ⟨by rfl, rfl⟩) ?_ ?_
      rotate_left
      · simp only [Act.put, qa_, qz_, qs_, i64_w, i32_w]
        rfl
      refine pure_ (i := 17) (N := some 51) (v := undef) (a' := ?_) #[true, true, true, true, true, true, true, true, true, true, true, true, true, true, true, true, true, true, false, false, false, false, false, false] rfl rfl (any_of HT_.out (by kernel_rfl)) (fun _ _ _ h => h) (Or.inr ⟨by rfl, rfl⟩) ?_ ?_
      rotate_left
      · simp only [Act.put, qa_, qz_, qs_, i64_w, i32_w]
        rfl
      refine pure_ (i := 18) (N := some 52) (v := undef) (a' := ?_) #[true, true, true, true, true, true, true, true, true, true, true, true, true, true, true, true, true, true, true, false, false, false, false, false] rfl rfl (any_of HT_.out (by kernel_rfl)) (fun _ _ _ h => h) (Or.inr ⟨by rfl, rfl⟩) ?_ ?_
      rotate_left
      · simp only [Act.put, qa_, qz_, qs_, i64_w, i32_w]
        rfl
      refine pure_ (i := 19) (N := some 53) (v := undef) (a' := ?_) #[true, true, true, true, true, true, true, true, true, true, true, true, true, true, true, true, true, true, true, true, false, false, false, false] rfl rfl (any_of HT_.out (by kernel_rfl)) (fun _ _ _ h => h) (Or.inr ⟨by rfl, rfl⟩) ?_ ?_
      rotate_left
      · simp only [Act.put, qa_, qz_, qs_, i64_w, i32_w]
        rfl
      refine pure_ (i := 20) (N := some 54) (v := undef) (a' := ?_) #[true, true, true, true, true, true, true, true, true, true, true, true, true, true, true, true, true, true, true, true, true, false, false, false] rfl rfl (any_of HT_.out (by kernel_rfl)) (fun _ _ _ h => h) (Or.inr ⟨by rfl, rfl⟩) ?_ ?_
      rotate_left
      · simp only [Act.put, qa_, qz_, qs_, i64_w, i32_w]
        rfl
      refine pure_ (i := 21) (N := some 55) (v := undef) (a' := ?_) #[true, true, true, true, true, true, true, true, true, true, true, true, true, true, true, true, true, true, true, true, true, true, false, false] rfl rfl (any_of HT_.out (by kernel_rfl)) (fun _ _ _ h => h) (Or.inr ⟨by rfl, rfl⟩) ?_ ?_
      rotate_left
      · simp only [Act.put, qa_, qz_, qs_, i64_w, i32_w]
        rfl
      refine pure_ (i := 22) (N := some 56) (v := undef) (a' := ?_) #[true, true, true, true, true, true, true, true, true, true, true, true, true, true, true, true, true, true, true, true, true, true, true, false] rfl rfl (any_of HT_.out (by kernel_rfl)) (fun _ _ _ h => h) (Or.inr ⟨by rfl, rfl⟩) ?_ ?_
      rotate_left
      · simp only [Act.put, qa_, qz_, qs_, i64_w, i32_w]
        rfl
      refine pure_ (i := 23) (N := some 57) (v := ?_) (a' := ?_) #[true, true, true, true, true, true, true, true, true, true, true, true, true, true, true, true, true, true, true, true, true, true, true, true] rfl rfl (any_of HT_.out (by kernel_rfl)) (fun _ _ _ h => h) (Or.inl ⟨by rfl, ?_⟩) ?_ ?_
      rotate_left
      · intro w'
        go_simp
        with_reducible rfl
      rotate_left
      · simp only [Act.put, qa_, qz_, qs_, i64_w, i32_w]
        rfl
      refine done_ (done_of HT_.out (by kernel_rfl)) ?_
      try go_wp2
      go_meet
      case rel => exact ⟨_, (true), (by first | rfl | (simp; done) | (simp [*]; done)), H', ⟨by first | omega | exact Nat.le_refl _⟩, ⟨by (with_reducible repeat (first | apply Kd.R_alloc | apply Kd.R_drewN | apply Kd.R_drew)); exact HO465.out⟩, ⟨by (with_reducible repeat (first | apply Kd.R_alloc | apply Kd.R_drewN | apply Kd.R_drew)); exact HO471.out⟩, ⟨by (with_reducible repeat (first | apply Kd.R_alloc | apply Kd.R_drewN | apply Kd.R_drew)); exact HO477.out⟩, ⟨by (with_reducible repeat (first | refine blk_drewN ?_ _ | refine blk_drew ?_ | refine blk_alloc ?_ _)); exact BK458.out⟩, ⟨by (with_reducible repeat (first | refine blk_drewN ?_ _ | refine blk_drew ?_ | refine blk_alloc ?_ _)); exact BK459.out⟩, ⟨by (with_reducible repeat (first | refine blk_drewN ?_ _ | refine blk_drew ?_ | refine blk_alloc ?_ _)); exact BK466.out⟩, ⟨by (with_reducible repeat (first | refine blk_drewN ?_ _ | refine blk_drew ?_ | refine blk_alloc ?_ _)); exact BK472.out⟩, ⟨by (with_reducible repeat (first | refine blk_drewN ?_ _ | refine blk_drew ?_ | refine blk_alloc ?_ _)); exact BK478.out⟩, ⟨by (with_reducible repeat (first | refine blk_drewN ?_ _ | refine blk_drew ?_ | refine blk_alloc ?_ _)); exact BK482.out⟩, ⟨by (with_reducible repeat (first | refine blk_drewN ?_ _ | refine blk_drew ?_ | refine blk_alloc ?_ _)); exact BK486.out⟩, ⟨by repeat (first | (with_reducible first | exact HB.out | apply below_alloc | apply pw_below_drewN | apply below_drew1 | refine below_set ?_ (Aside0.out (by assumption))) | exact HB.out)⟩⟩
  · replace c58 := Bool.eq_false_iff.mpr c58
    subst c58
    have H1 : (partitalaw05_MeterSame.j0 k t460 t481 t485 true t461 t462 t463 t467 t468 t469 t479 t480 t483 t484) = some r := by rw [if_neg (show ¬ (false = true) by decide)] at H; exact H
    clear H
    have H := H1
    clear H1
    have H' := Aside0.mk H
    clear H
    try go_wp2
    have n0_ : Aside0 (Kd.R (Kd.int .i64) 3 ((w49.setCell ⟨gb486, 0, none⟩ (.int .i64 t483)).setCell ⟨gb486, 1, none⟩ (.int .i64 t484)) w.heap.size (fun k_ => some k_ ≠ (.slice Ao28 t469.length co28 : Value).ownBlock ∧ some k_ ≠ (.slice Ao37 t475.length co37 : Value).ownBlock) (.slice Ao20 t463.length co20) t463) := ⟨by (with_reducible repeat (first | apply Kd.R_alloc | apply Kd.R_drewN | apply Kd.R_drew)); exact Kd.R_mono (Kd.R_far (p := ⟨gb486, 1, none⟩) (Kd.R_far (p := ⟨gb486, 0, none⟩) (Kd.R_types HO465.out BK486.out (by decide)) (fun _ hk => hk.2) (.int .i64 t483)) (fun _ hk => hk.2) (.int .i64 t484)) (fun _ hk => ⟨hk.1.1.2, hk.1.2⟩)⟩
    have n1_ : Aside0 (Kd.R (Kd.int .i64) 3 ((w49.setCell ⟨gb486, 0, none⟩ (.int .i64 t483)).setCell ⟨gb486, 1, none⟩ (.int .i64 t484)) w.heap.size (fun k_ => some k_ ≠ (.slice Ao20 t463.length co20 : Value).ownBlock ∧ some k_ ≠ (.slice Ao37 t475.length co37 : Value).ownBlock) (.slice Ao28 t469.length co28) t469) := ⟨by (with_reducible repeat (first | apply Kd.R_alloc | apply Kd.R_drewN | apply Kd.R_drew)); exact Kd.R_mono (Kd.R_far (p := ⟨gb486, 1, none⟩) (Kd.R_far (p := ⟨gb486, 0, none⟩) (Kd.R_types HO471.out BK486.out (by decide)) (fun _ hk => hk.2) (.int .i64 t483)) (fun _ hk => hk.2) (.int .i64 t484)) (fun _ hk => ⟨hk.1.1.2, hk.1.2⟩)⟩
    have n2_ : Aside0 (Kd.R (Kd.int .i64) 3 ((w49.setCell ⟨gb486, 0, none⟩ (.int .i64 t483)).setCell ⟨gb486, 1, none⟩ (.int .i64 t484)) w.heap.size (fun k_ => some k_ ≠ (.slice Ao20 t463.length co20 : Value).ownBlock ∧ some k_ ≠ (.slice Ao28 t469.length co28 : Value).ownBlock) (.slice Ao37 t475.length co37) t475) := ⟨by (with_reducible repeat (first | apply Kd.R_alloc | apply Kd.R_drewN | apply Kd.R_drew)); exact Kd.R_mono (Kd.R_far (p := ⟨gb486, 1, none⟩) (Kd.R_far (p := ⟨gb486, 0, none⟩) (Kd.R_types HO477.out BK486.out (by decide)) (fun _ hk => hk.2) (.int .i64 t483)) (fun _ hk => hk.2) (.int .i64 t484)) (fun _ hk => ⟨hk.1.1.2, hk.1.2⟩)⟩
    have n3_ : Aside0 (((w49.setCell ⟨gb486, 0, none⟩ (.int .i64 t483)).setCell ⟨gb486, 1, none⟩ (.int .i64 t484)).heap[gb458]? = some (.cells #[.int .i64 a0_0, .int .i64 a0_1, .slice A0_2 l0_2.length c0_2] 24 (0, 0))) := ⟨by (with_reducible repeat (first | refine blk_drewN ?_ _ | refine blk_drew ?_ | refine blk_alloc ?_ _)); refine blk_far ?_ NB458_486.out _; (with_reducible repeat (first | refine blk_drewN ?_ _ | refine blk_drew ?_ | refine blk_alloc ?_ _)); refine blk_far ?_ NB458_486.out _; (with_reducible repeat (first | refine blk_drewN ?_ _ | refine blk_drew ?_ | refine blk_alloc ?_ _)); exact BK458.out⟩
    have n4_ : Aside0 (((w49.setCell ⟨gb486, 0, none⟩ (.int .i64 t483)).setCell ⟨gb486, 1, none⟩ (.int .i64 t484)).heap[gb459]? = some (.cells #[.int .i64 a1_0, .int .i64 a1_1, .slice A1_2 l1_2.length c1_2] 24 (0, 0))) := ⟨by (with_reducible repeat (first | refine blk_drewN ?_ _ | refine blk_drew ?_ | refine blk_alloc ?_ _)); refine blk_far ?_ NB459_486.out _; (with_reducible repeat (first | refine blk_drewN ?_ _ | refine blk_drew ?_ | refine blk_alloc ?_ _)); refine blk_far ?_ NB459_486.out _; (with_reducible repeat (first | refine blk_drewN ?_ _ | refine blk_drew ?_ | refine blk_alloc ?_ _)); exact BK459.out⟩
    have n5_ : Aside0 (((w49.setCell ⟨gb486, 0, none⟩ (.int .i64 t483)).setCell ⟨gb486, 1, none⟩ (.int .i64 t484)).heap[gb466]? = some (.cells #[.int .i64 t461, .int .i64 t462, .slice Ao20 t463.length co20] 24 (0, 0))) := ⟨by (with_reducible repeat (first | refine blk_drewN ?_ _ | refine blk_drew ?_ | refine blk_alloc ?_ _)); refine blk_far ?_ NB466_486.out _; (with_reducible repeat (first | refine blk_drewN ?_ _ | refine blk_drew ?_ | refine blk_alloc ?_ _)); refine blk_far ?_ NB466_486.out _; (with_reducible repeat (first | refine blk_drewN ?_ _ | refine blk_drew ?_ | refine blk_alloc ?_ _)); exact BK466.out⟩
    have n6_ : Aside0 (((w49.setCell ⟨gb486, 0, none⟩ (.int .i64 t483)).setCell ⟨gb486, 1, none⟩ (.int .i64 t484)).heap[gb472]? = some (.cells #[.int .i64 t467, .int .i64 t468, .slice Ao28 t469.length co28] 24 (0, 0))) := ⟨by (with_reducible repeat (first | refine blk_drewN ?_ _ | refine blk_drew ?_ | refine blk_alloc ?_ _)); refine blk_far ?_ NB472_486.out _; (with_reducible repeat (first | refine blk_drewN ?_ _ | refine blk_drew ?_ | refine blk_alloc ?_ _)); refine blk_far ?_ NB472_486.out _; (with_reducible repeat (first | refine blk_drewN ?_ _ | refine blk_drew ?_ | refine blk_alloc ?_ _)); exact BK472.out⟩
    have n7_ : Aside0 (((w49.setCell ⟨gb486, 0, none⟩ (.int .i64 t483)).setCell ⟨gb486, 1, none⟩ (.int .i64 t484)).heap[gb478]? = some (.cells #[.int .i64 t473, .int .i64 t474, .slice Ao37 t475.length co37] 24 (0, 0))) := ⟨by (with_reducible repeat (first | refine blk_drewN ?_ _ | refine blk_drew ?_ | refine blk_alloc ?_ _)); refine blk_far ?_ NB478_486.out _; (with_reducible repeat (first | refine blk_drewN ?_ _ | refine blk_drew ?_ | refine blk_alloc ?_ _)); refine blk_far ?_ NB478_486.out _; (with_reducible repeat (first | refine blk_drewN ?_ _ | refine blk_drew ?_ | refine blk_alloc ?_ _)); exact BK478.out⟩
    have n8_ : Aside0 (((w49.setCell ⟨gb486, 0, none⟩ (.int .i64 t483)).setCell ⟨gb486, 1, none⟩ (.int .i64 t484)).heap[gb482]? = some (.cells #[.int .i64 t479, .int .i64 t480] 26 (0, 0))) := ⟨by (with_reducible repeat (first | refine blk_drewN ?_ _ | refine blk_drew ?_ | refine blk_alloc ?_ _)); refine blk_far ?_ NB482_486.out _; (with_reducible repeat (first | refine blk_drewN ?_ _ | refine blk_drew ?_ | refine blk_alloc ?_ _)); refine blk_far ?_ NB482_486.out _; (with_reducible repeat (first | refine blk_drewN ?_ _ | refine blk_drew ?_ | refine blk_alloc ?_ _)); exact BK482.out⟩
    have n9_ : Aside0 (((w49.setCell ⟨gb486, 0, none⟩ (.int .i64 t483)).setCell ⟨gb486, 1, none⟩ (.int .i64 t484)).heap[gb486]? = some (.cells #[.int .i64 t483, .int .i64 t484] 26 (0, 0))) := ⟨by (with_reducible repeat (first | refine blk_drewN ?_ _ | refine blk_drew ?_ | refine blk_alloc ?_ _)); refine blk_put (cs := #[.int .i64 t483, .int .i64 0]) ?_ 1 _ rfl; (with_reducible repeat (first | refine blk_drewN ?_ _ | refine blk_drew ?_ | refine blk_alloc ?_ _)); refine blk_put (cs := #[.int .i64 0, .int .i64 0]) ?_ 0 _ rfl; (with_reducible repeat (first | refine blk_drewN ?_ _ | refine blk_drew ?_ | refine blk_alloc ?_ _)); exact BK486.out⟩
    have n10_ : Aside0 (Below w.heap.size w ((w49.setCell ⟨gb486, 0, none⟩ (.int .i64 t483)).setCell ⟨gb486, 1, none⟩ (.int .i64 t484))) := ⟨by repeat (first | (with_reducible first | exact HB.out | apply below_alloc | apply pw_below_drewN | apply below_drew1 | refine below_set ?_ (Aside0.out (by assumption))) | exact HB.out)⟩
    (try clear HO465)
    (try clear HO471)
    (try clear HO477)
    (try clear BK458)
    (try clear BK459)
    (try clear BK466)
    (try clear BK472)
    (try clear BK478)
    (try clear BK482)
    (try clear BK486)
    (try clear HB)
    generalize ((w49.setCell ⟨gb486, 0, none⟩ (.int .i64 t483)).setCell ⟨gb486, 1, none⟩ (.int .i64 t484)) = w81 at n0_ n1_ n2_ n3_ n4_ n5_ n6_ n7_ n8_ n9_ n10_ ⊢
    have HO465 := n0_
    have HO471 := n1_
    have HO477 := n2_
    have BK458 := n3_
    have BK459 := n4_
    have BK466 := n5_
    have BK472 := n6_
    have BK478 := n7_
    have BK482 := n8_
    have BK486 := n9_
    have HB := n10_
    clear n0_ n1_ n2_ n3_ n4_ n5_ n6_ n7_ n8_ n9_ n10_
    have n0_ := Aside0.mk (Kd.R_drew HO465.out)
    have n1_ := Aside0.mk (Kd.R_drew HO471.out)
    have n2_ := Aside0.mk (Kd.R_drew HO477.out)
    have n3_ := Aside0.mk (blk_drew BK458.out)
    have n4_ := Aside0.mk (blk_drew BK459.out)
    have n5_ := Aside0.mk (blk_drew BK466.out)
    have n6_ := Aside0.mk (blk_drew BK472.out)
    have n7_ := Aside0.mk (blk_drew BK478.out)
    have n8_ := Aside0.mk (blk_drew BK482.out)
    have n9_ := Aside0.mk (blk_drew BK486.out)
    have n10_ := Aside0.mk (below_drew1 HB.out)
    clear HO465
    clear HO471
    clear HO477
    clear BK458
    clear BK459
    clear BK466
    clear BK472
    clear BK478
    clear BK482
    clear BK486
    clear HB
    have HO465 := n0_
    have HO471 := n1_
    have HO477 := n2_
    have BK458 := n3_
    have BK459 := n4_
    have BK466 := n5_
    have BK472 := n6_
    have BK478 := n7_
    have BK482 := n8_
    have BK486 := n9_
    have HB := n10_
    clear n0_ n1_ n2_ n3_ n4_ n5_ n6_ n7_ n8_ n9_ n10_
    refine start_ (n := 24) (S := fun w' => w'.cell? ⟨gb466, 0, none⟩ = some (.int .i64 t461) ∧ w'.cell? ⟨gb466, 1, none⟩ = some (.int .i64 t462) ∧ w'.cell? ⟨gb466, 2, none⟩ = some (.slice Ao20 t463.length co20)) (ds := []) #[false, false, false, false, false, false, false, false, false, false, false, false, false, false, false, false, false, false, false, false, false, false, false, false] (by kernel_rfl) rfl rfl ⟨(blk_cell BK466.out 0).trans rfl, (blk_cell BK466.out 1).trans rfl, (blk_cell BK466.out 2).trans rfl⟩ (fun hHeld => ?_); refine with_tabW partitalaw05_MeterSame.tab7 partitalaw05_MeterSame.bits7 (fun HT_ HW_ => ?_)
    generalize w81.drew = w82 at HO465 HO471 HO477 BK458 BK459 BK466 BK472 BK478 BK482 BK486 HB hHeld ⊢
    refine take_ (i := 0) (N := some 34) (v := ?_) (a' := ?_) #[true, false, false, false, false, false, false, false, false, false, false, false, false, false, false, false, false, false, false, false, false, false, false, false] rfl rfl (take_ofW HT_.out HW_.out (by kernel_rfl)) (fun _ _ _ h => h) (Or.inl ⟨by rfl, ?_⟩) hHeld ?_ ?_
    rotate_left
    · rintro w' ⟨s0, s1, s2⟩
      go_simp
      with_reducible rfl
    rotate_left
    · simp only [Act.put, qa_, qz_, qs_, i64_w, i32_w]
      rfl
    refine take_ (i := 1) (N := some 35) (v := ?_) (a' := ?_) #[true, true, false, false, false, false, false, false, false, false, false, false, false, false, false, false, false, false, false, false, false, false, false, false] rfl rfl (take_ofW HT_.out HW_.out (by kernel_rfl)) (fun _ _ _ h => h) (Or.inl ⟨by rfl, ?_⟩) hHeld ?_ ?_
    rotate_left
    · rintro w' ⟨s0, s1, s2⟩
      go_simp
      with_reducible rfl
    rotate_left
    · simp only [Act.put, qa_, qz_, qs_, i64_w, i32_w]
      rfl
    refine one_ (i := 2) (N := some 36) #[true, true, true, false, false, false, false, false, false, false, false, false, false, false, false, false, false, false, false, false, false, false, false, false] rfl rfl (one_of HT_.out (by kernel_rfl)) (by decide) (fun K hK => ?_)
    refine goes_ Try.func18 (by kernel_rfl) rfl #[.agg #[.int .i64 t461, .int .i64 t462, .slice Ao20 t463.length co20], .agg #[.int .i64 t461, .int .i64 t462, .slice Ao20 t463.length co20]] (by rfl) rfl rfl (by (try simp only [List.map_toArray, List.map_cons, List.map_nil]); first | done | rfl | (simp only [List.length_drop, List.length_take]; rfl)) ?_
    with_reducible refine (meter_Same.calls k t461 t462 _ _ t463 t461 t462 _ _ t463 false _ ?side1 ?side2 ?side3 ?side4 A57.out).mono ?_
    (case side1 => repeat (first | exact (Kd.R_reads' HO465.out).2.2 | (with_reducible refine Kd.C_alloc ?_ _) | (with_reducible refine Kd.C_drewN ?_ _) | (with_reducible refine Kd.C_drew ?_)))
    (case side2 => exact (Kd.R_reads' HO465.out).2.1)
    (case side3 => repeat (first | exact (Kd.R_reads' HO465.out).2.2 | (with_reducible refine Kd.C_alloc ?_ _) | (with_reducible refine Kd.C_drewN ?_ _) | (with_reducible refine Kd.C_drew ?_)))
    (case side4 => exact (Kd.R_reads' HO465.out).2.1)
    rintro e w83 ⟨rfl, hb⟩
    refine ⟨_, rfl, ?_⟩
    have n0_ := Aside0.mk (Kd.R_below (qR HO465.out) hb)
    have n1_ := Aside0.mk (Kd.R_below (qR HO471.out) hb)
    have n2_ := Aside0.mk (Kd.R_below (qR HO477.out) hb)
    have n3_ := Aside0.mk (blk_below (qB BK458.out) hb)
    have n4_ := Aside0.mk (blk_below (qB BK459.out) hb)
    have n5_ := Aside0.mk (blk_below (qB BK466.out) hb)
    have n6_ := Aside0.mk (blk_below (qB BK472.out) hb)
    have n7_ := Aside0.mk (blk_below (qB BK478.out) hb)
    have n8_ := Aside0.mk (blk_below (qB BK482.out) hb)
    have n9_ := Aside0.mk (blk_below (qB BK486.out) hb)
    have n10_ := Aside0.mk (below_step (by repeat (first | (with_reducible first | exact HB.out | apply below_alloc | apply pw_below_drewN | apply below_drew1 | refine below_set ?_ (Aside0.out (by assumption))) | exact HB.out)) hb)
    clear HO465
    clear HO471
    clear HO477
    clear BK458
    clear BK459
    clear BK466
    clear BK472
    clear BK478
    clear BK482
    clear BK486
    clear HB
    have HO465 := n0_
    have HO471 := n1_
    have HO477 := n2_
    have BK458 := n3_
    have BK459 := n4_
    have BK466 := n5_
    have BK472 := n6_
    have BK478 := n7_
    have BK482 := n8_
    have BK486 := n9_
    have HB := n10_
    clear n0_ n1_ n2_ n3_ n4_ n5_ n6_ n7_ n8_ n9_ n10_
    (try clear hb)
    (try clear hb2)
    (try clear hk)
    (try clear hi)
    refine hK.out _ _ ⟨(blk_cell BK466.out 0).trans rfl, (blk_cell BK466.out 1).trans rfl, (blk_cell BK466.out 2).trans rfl⟩ (fun hHeld => ?_)
    clear hK K
    refine norm_ (a' := ?_) ?_ ?_
    rotate_left
    · show Act.put _ (some 36) _ = _
      simp only [Act.put, qa_, qz_, qs_, i64_w, i32_w]
      rfl
    refine pure_ (i := 3) (N := some 37) (v := ?_) (a' := ?_) #[true, true, true, true, false, false, false, false, false, false, false, false, false, false, false, false, false, false, false, false, false, false, false, false] rfl rfl (any_of HT_.out (by kernel_rfl)) (fun _ _ _ h => h) (Or.inl ⟨by rfl, ?_⟩) ?_ ?_
    rotate_left
    · intro w'
      go_simp
      with_reducible rfl
    rotate_left
    · simp only [Act.put, qa_, qz_, qs_, i64_w, i32_w]
      rfl
    refine pure_ (i := 4) (N := some 38) (v := ?_) (a' := ?_) #[true, true, true, true, true, false, false, false, false, false, false, false, false, false, false, false, false, false, false, false, false, false, false, false] rfl rfl (any_of HT_.out (by kernel_rfl)) (fun _ _ _ h => h) (Or.inl ⟨by rfl, ?_⟩) ?_ ?_
    rotate_left
    · intro w'
      go_simp
      with_reducible rfl
    rotate_left
    · simp only [Act.put, qa_, qz_, qs_, i64_w, i32_w]
      rfl
    refine pure_ (i := 5) (N := some 39) (v := undef) (a' := ?_) #[true, true, true, true, true, true, false, false, false, false, false, false, false, false, false, false, false, false, false, false, false, false, false, false] rfl rfl (any_of HT_.out (by kernel_rfl)) (fun _ _ _ h => h) (Or.inr ⟨by rfl, rfl⟩) ?_ ?_
    rotate_left
    · simp only [Act.put, qa_, qz_, qs_, i64_w, i32_w]
      rfl
    refine pure_ (i := 6) (N := some 40) (v := undef) (a' := ?_) #[true, true, true, true, true, true, true, false, false, false, false, false, false, false, false, false, false, false, false, false, false, false, false, false] rfl rfl (any_of HT_.out (by kernel_rfl)) (fun _ _ _ h => h) (Or.inr ⟨by rfl, rfl⟩) ?_ ?_
    rotate_left
    · simp only [Act.put, qa_, qz_, qs_, i64_w, i32_w]
      rfl
    refine pure_ (i := 7) (N := some 41) (v := undef) (a' := ?_) #[true, true, true, true, true, true, true, true, false, false, false, false, false, false, false, false, false, false, false, false, false, false, false, false] rfl rfl (any_of HT_.out (by kernel_rfl)) (fun _ _ _ h => h) (Or.inr ⟨by rfl, rfl⟩) ?_ ?_
    rotate_left
    · simp only [Act.put, qa_, qz_, qs_, i64_w, i32_w]
      rfl
    refine pure_ (i := 8) (N := some 42) (v := undef) (a' := ?_) #[true, true, true, true, true, true, true, true, true, false, false, false, false, false, false, false, false, false, false, false, false, false, false, false] rfl rfl (any_of HT_.out (by kernel_rfl)) (fun _ _ _ h => h) (Or.inr ⟨by rfl, rfl⟩) ?_ ?_
    rotate_left
    · simp only [Act.put, qa_, qz_, qs_, i64_w, i32_w]
      rfl
    refine pure_ (i := 9) (N := some 43) (v := ?_) (a' := ?_) #[true, true, true, true, true, true, true, true, true, true, false, false, false, false, false, false, false, false, false, false, false, false, false, false] rfl rfl (any_of HT_.out (by kernel_rfl)) (fun _ _ _ h => h) (Or.inl ⟨by rfl, ?_⟩) ?_ ?_
    rotate_left
    · intro w'
      go_simp
      with_reducible rfl
    rotate_left
    · simp only [Act.put, qa_, qz_, qs_, i64_w, i32_w]
      rfl
    refine pure_ (i := 10) (N := some 44) (v := ?_) (a' := ?_) #[true, true, true, true, true, true, true, true, true, true, true, false, false, false, false, false, false, false, false, false, false, false, false, false] rfl rfl (any_of HT_.out (by kernel_rfl)) (fun _ _ _ h => h) (Or.inl ⟨by rfl, ?_⟩) ?_ ?_
    rotate_left
    · intro w'
      go_simp
      with_reducible rfl
    rotate_left
    · simp only [Act.put, qa_, qz_, qs_, i64_w, i32_w]
      rfl
    refine pure_ (i := 11) (N := some 45) (v := undef) (a' := ?_) #[true, true, true, true, true, true, true, true, true, true, true, true, false, false, false, false, false, false, false, false, false, false, false, false] rfl rfl (any_of HT_.out (by kernel_rfl)) (fun _ _ _ h => h) (Or.inr ⟨by rfl, rfl⟩) ?_ ?_
    rotate_left
    · simp only [Act.put, qa_, qz_, qs_, i64_w, i32_w]
      rfl
    refine pure_ (i := 12) (N := some 46) (v := undef) (a' := ?_) #[true, true, true, true, true, true, true, true, true, true, true, true, true, false, false, false, false, false, false, false, false, false, false, false] rfl rfl (any_of HT_.out (by kernel_rfl)) (fun _ _ _ h => h) (Or.inr ⟨by rfl, rfl⟩) ?_ ?_
    rotate_left
    · simp only [Act.put, qa_, qz_, qs_, i64_w, i32_w]
      rfl
    refine pure_ (i := 13) (N := some 47) (v := undef) (a' := ?_) #[true, true, true, true, true, true, true, true, true, true, true, true, true, true, false, false, false, false, false, false, false, false, false, false] rfl rfl (any_of HT_.out (by kernel_rfl)) (fun _ _ _ h => h) (Or.inr ⟨by rfl, rfl⟩) ?_ ?_
    rotate_left
    · simp only [Act.put, qa_, qz_, qs_, i64_w, i32_w]
      rfl
    refine pure_ (i := 14) (N := some 48) (v := ?_) (a' := ?_) #[true, true, true, true, true, true, true, true, true, true, true, true, true, true, true, false, false, false, false, false, false, false, false, false] rfl rfl (any_of HT_.out (by kernel_rfl)) (fun _ _ _ h => h) (Or.inl ⟨by rfl, ?_⟩) ?_ ?_
    rotate_left
    · intro w'
      go_simp
      with_reducible rfl
    rotate_left
    · simp only [Act.put, qa_, qz_, qs_, i64_w, i32_w]
      rfl
    refine pure_ (i := 15) (N := some 49) (v := ?_) (a' := ?_) #[true, true, true, true, true, true, true, true, true, true, true, true, true, true, true, true, false, false, false, false, false, false, false, false] rfl rfl (any_of HT_.out (by kernel_rfl)) (fun _ _ _ h => h) (Or.inl ⟨by rfl, ?_⟩) ?_ ?_
    rotate_left
    · intro w'
      go_simp
      with_reducible rfl
    rotate_left
    · simp only [Act.put, qa_, qz_, qs_, i64_w, i32_w]
      rfl
    refine pure_ (i := 16) (N := some 50) (v := undef) (a' := ?_) #[true, true, true, true, true, true, true, true, true, true, true, true, true, true, true, true, true, false, false, false, false, false, false, false] rfl rfl (any_of HT_.out (by kernel_rfl)) (fun _ _ _ h => h) (Or.inr ⟨by rfl, rfl⟩) ?_ ?_
    rotate_left
    · simp only [Act.put, qa_, qz_, qs_, i64_w, i32_w]
      rfl
    refine pure_ (i := 17) (N := some 51) (v := undef) (a' := ?_) #[true, true, true, true, true, true, true, true, true, true, true, true, true, true, true, true, true, true, false, false, false, false, false, false] rfl rfl (any_of HT_.out (by kernel_rfl)) (fun _ _ _ h => h) (Or.inr ⟨by rfl, rfl⟩) ?_ ?_
    rotate_left
    · simp only [Act.put, qa_, qz_, qs_, i64_w, i32_w]
      rfl
    refine pure_ (i := 18) (N := some 52) (v := undef) (a' := ?_) #[true, true, true, true, true, true, true, true, true, true, true, true, true, true, true, true, true, true, true, false, false, false, false, false] rfl rfl (any_of HT_.out (by kernel_rfl)) (fun _ _ _ h => h) (Or.inr ⟨by rfl, rfl⟩) ?_ ?_
    rotate_left
    · simp only [Act.put, qa_, qz_, qs_, i64_w, i32_w]
      rfl
    refine pure_ (i := 19) (N := some 53) (v := undef) (a' := ?_) #[true, true, true, true, true, true, true, true, true, true, true, true, true, true, true, true, true, true, true, true, false, false, false, false] rfl rfl (any_of HT_.out (by kernel_rfl)) (fun _ _ _ h => h) (Or.inr ⟨by rfl, rfl⟩) ?_ ?_
    rotate_left
    · simp only [Act.put, qa_, qz_, qs_, i64_w, i32_w]
      rfl
    refine pure_ (i := 20) (N := some 54) (v := undef) (a' := ?_) #[true, true, true, true, true, true, true, true, true, true, true, true, true, true, true, true, true, true, true, true, true, false, false, false] rfl rfl (any_of HT_.out (by kernel_rfl)) (fun _ _ _ h => h) (Or.inr ⟨by rfl, rfl⟩) ?_ ?_
    rotate_left
    · simp only [Act.put, qa_, qz_, qs_, i64_w, i32_w]
      rfl
    refine pure_ (i := 21) (N := some 55) (v := undef) (a' := ?_) #[true, true, true, true, true, true, true, true, true, true, true, true, true, true, true, true, true, true, true, true, true, true, false, false] rfl rfl (any_of HT_.out (by kernel_rfl)) (fun _ _ _ h => h) (Or.inr ⟨by rfl, rfl⟩) ?_ ?_
    rotate_left
    · simp only [Act.put, qa_, qz_, qs_, i64_w, i32_w]
      rfl
    refine pure_ (i := 22) (N := some 56) (v := undef) (a' := ?_) #[true, true, true, true, true, true, true, true, true, true, true, true, true, true, true, true, true, true, true, true, true, true, true, false] rfl rfl (any_of HT_.out (by kernel_rfl)) (fun _ _ _ h => h) (Or.inr ⟨by rfl, rfl⟩) ?_ ?_
    rotate_left
    · simp only [Act.put, qa_, qz_, qs_, i64_w, i32_w]
      rfl
    refine pure_ (i := 23) (N := some 57) (v := ?_) (a' := ?_) #[true, true, true, true, true, true, true, true, true, true, true, true, true, true, true, true, true, true, true, true, true, true, true, true] rfl rfl (any_of HT_.out (by kernel_rfl)) (fun _ _ _ h => h) (Or.inl ⟨by rfl, ?_⟩) ?_ ?_
    rotate_left
    · intro w'
      go_simp
      with_reducible rfl
    rotate_left
    · simp only [Act.put, qa_, qz_, qs_, i64_w, i32_w]
      rfl
    refine done_ (done_of HT_.out (by kernel_rfl)) ?_
    try go_wp2
    go_meet
    case rel => exact ⟨_, (true), (by first | rfl | (simp; done) | (simp [*]; done)), H', ⟨by first | omega | exact Nat.le_refl _⟩, ⟨by (with_reducible repeat (first | apply Kd.R_alloc | apply Kd.R_drewN | apply Kd.R_drew)); exact HO465.out⟩, ⟨by (with_reducible repeat (first | apply Kd.R_alloc | apply Kd.R_drewN | apply Kd.R_drew)); exact HO471.out⟩, ⟨by (with_reducible repeat (first | apply Kd.R_alloc | apply Kd.R_drewN | apply Kd.R_drew)); exact HO477.out⟩, ⟨by (with_reducible repeat (first | refine blk_drewN ?_ _ | refine blk_drew ?_ | refine blk_alloc ?_ _)); exact BK458.out⟩, ⟨by (with_reducible repeat (first | refine blk_drewN ?_ _ | refine blk_drew ?_ | refine blk_alloc ?_ _)); exact BK459.out⟩, ⟨by (with_reducible repeat (first | refine blk_drewN ?_ _ | refine blk_drew ?_ | refine blk_alloc ?_ _)); exact BK466.out⟩, ⟨by (with_reducible repeat (first | refine blk_drewN ?_ _ | refine blk_drew ?_ | refine blk_alloc ?_ _)); exact BK472.out⟩, ⟨by (with_reducible repeat (first | refine blk_drewN ?_ _ | refine blk_drew ?_ | refine blk_alloc ?_ _)); exact BK478.out⟩, ⟨by (with_reducible repeat (first | refine blk_drewN ?_ _ | refine blk_drew ?_ | refine blk_alloc ?_ _)); exact BK482.out⟩, ⟨by (with_reducible repeat (first | refine blk_drewN ?_ _ | refine blk_drew ?_ | refine blk_alloc ?_ _)); exact BK486.out⟩, ⟨by repeat (first | (with_reducible first | exact HB.out | apply below_alloc | apply pw_below_drewN | apply below_drew1 | refine below_set ?_ (Aside0.out (by assumption))) | exact HB.out)⟩⟩
 case rest =>
  clear HC9
  try clear c1
  try clear p2
  try clear c5
  try clear c6
  try clear c18
  try clear c58
  try clear c60
  obtain ⟨kq, x57_8, rfl, HA, HJ8, HO_467002, HO_473002, HO_479002, BK458, BK459, BK466, BK472, BK478, BK482, BK486, HB⟩ := hcut
  cases kq with
  | zero => exact absurd HA.out (by simp [partitalaw05_MeterSame.j0])
  | succ kj8 =>
   have H := HA.out
   clear HA
   simp only [partitalaw05_MeterSame.j0] at H
   by_cases c84 : x57_8 = true
   · subst c84
     have H1 : none = some r := by rw [if_pos rfl] at H; exact H
     cases H1
   · replace c84 := Bool.eq_false_iff.mpr c84
     subst c84
     have H1 : (if ([] : List Int).length + t469.length < 17592186044416 then ((some (([] : List Int) ++ t469 : List Int)).bind fun y493 => (if y493.length < 17592186044416 then ((some (y493 ++ [1] : List Int)).bind fun y496 => ((some (([] : List Int) ++ t469 : List Int)).bind fun y500 => (if y500.length < 17592186044416 then ((meter_Length.f kj8 t467 t468 y496).bind fun bt506 => (if t460 = true then (if t481 = 0 then (if t485 = 0 then (if (t479 == t483 && (t480 == t484)) = true then ((meter_Right.f kj8 t461 t462 t463).bind fun t510 => (if t510 = true then ((meter_Right.f kj8 t467 t468 t469).bind fun t511 => (if t511 = true then ((meter_Right.f kj8 t467 t468 y496).bind fun t512 => (if t512 = true then none else ((meter_Right.f kj8 t467 t468 (y500 ++ [0])).bind fun t513 => (if t513 = true then none else (if bt506.2.2 = 50 then ((meter_Same.f kj8 t467 t468 t469 t467 t468 y496).bind fun t514 => (some (!t514))) else none))))) else none)) else none)) else none) else none) else none) else none)) else (none)))) else (none))) else (none)) = some r := by rw [if_neg (show ¬ (false = true) by decide)] at H; exact H
     clear H
     have H := H1
     clear H1
     by_cases c85 : ([] : List Int).length + t469.length < 17592186044416
     · rw [if_pos c85] at H
       have LMc85 := Aside0.mk c85
       clear c85
       obtain ⟨y493, hy493⟩ : ∃ y_ : List Int, y_ = (([] : List Int) ++ t469) := ⟨_, rfl⟩
       replace H : (if y493.length < 17592186044416 then ((some (y493 ++ [1] : List Int)).bind fun y496 => ((some (([] : List Int) ++ t469 : List Int)).bind fun y500 => (if y500.length < 17592186044416 then ((meter_Length.f kj8 t467 t468 y496).bind fun bt506 => (if t460 = true then (if t481 = 0 then (if t485 = 0 then (if (t479 == t483 && (t480 == t484)) = true then ((meter_Right.f kj8 t461 t462 t463).bind fun t510 => (if t510 = true then ((meter_Right.f kj8 t467 t468 t469).bind fun t511 => (if t511 = true then ((meter_Right.f kj8 t467 t468 y496).bind fun t512 => (if t512 = true then none else ((meter_Right.f kj8 t467 t468 (y500 ++ [0])).bind fun t513 => (if t513 = true then none else (if bt506.2.2 = 50 then ((meter_Same.f kj8 t467 t468 t469 t467 t468 y496).bind fun t514 => (some (!t514))) else none))))) else none)) else none)) else none) else none) else none) else none)) else (none)))) else (none)) = some r := by first | (rw [hy493]; with_reducible exact H) | (have H2_ := (Option.bind_some _ _).symm.trans H; rw [hy493]; with_reducible exact H2_) | (have H2_ := (Option.bind_some _ _).symm.trans H; with_reducible exact H2_) | with_reducible exact H | (rw [hy493]; exact H) | exact H
       have Ny493 := Aside0.mk hy493
       clear hy493
       by_cases c86 : y493.length < 17592186044416
       · rw [if_pos c86] at H
         have LMc86 := Aside0.mk c86
         clear c86
         obtain ⟨y496, hy496⟩ : ∃ y_ : List Int, y_ = (y493 ++ [1]) := ⟨_, rfl⟩
         replace H : ((some (([] : List Int) ++ t469 : List Int)).bind fun y500 => (if y500.length < 17592186044416 then ((meter_Length.f kj8 t467 t468 y496).bind fun bt506 => (if t460 = true then (if t481 = 0 then (if t485 = 0 then (if (t479 == t483 && (t480 == t484)) = true then ((meter_Right.f kj8 t461 t462 t463).bind fun t510 => (if t510 = true then ((meter_Right.f kj8 t467 t468 t469).bind fun t511 => (if t511 = true then ((meter_Right.f kj8 t467 t468 y496).bind fun t512 => (if t512 = true then none else ((meter_Right.f kj8 t467 t468 (y500 ++ [0])).bind fun t513 => (if t513 = true then none else (if bt506.2.2 = 50 then ((meter_Same.f kj8 t467 t468 t469 t467 t468 y496).bind fun t514 => (some (!t514))) else none))))) else none)) else none)) else none) else none) else none) else none)) else (none))) = some r := by first | (rw [hy496]; with_reducible exact H) | (have H2_ := (Option.bind_some _ _).symm.trans H; rw [hy496]; with_reducible exact H2_) | (have H2_ := (Option.bind_some _ _).symm.trans H; with_reducible exact H2_) | with_reducible exact H | (rw [hy496]; exact H) | exact H
         have Ny496 := Aside0.mk hy496
         clear hy496
         obtain ⟨y500, hy500⟩ : ∃ y_ : List Int, y_ = (([] : List Int) ++ t469) := ⟨_, rfl⟩
         replace H : (if y500.length < 17592186044416 then ((meter_Length.f kj8 t467 t468 y496).bind fun bt506 => (if t460 = true then (if t481 = 0 then (if t485 = 0 then (if (t479 == t483 && (t480 == t484)) = true then ((meter_Right.f kj8 t461 t462 t463).bind fun t510 => (if t510 = true then ((meter_Right.f kj8 t467 t468 t469).bind fun t511 => (if t511 = true then ((meter_Right.f kj8 t467 t468 y496).bind fun t512 => (if t512 = true then none else ((meter_Right.f kj8 t467 t468 (y500 ++ [0])).bind fun t513 => (if t513 = true then none else (if bt506.2.2 = 50 then ((meter_Same.f kj8 t467 t468 t469 t467 t468 y496).bind fun t514 => (some (!t514))) else none))))) else none)) else none)) else none) else none) else none) else none)) else (none)) = some r := by first | (rw [hy500]; with_reducible exact H) | (have H2_ := (Option.bind_some _ _).symm.trans H; rw [hy500]; with_reducible exact H2_) | (have H2_ := (Option.bind_some _ _).symm.trans H; with_reducible exact H2_) | with_reducible exact H | (rw [hy500]; exact H) | exact H
         have Ny500 := Aside0.mk hy500
         clear hy500
         by_cases c87 : y500.length < 17592186044416
         · rw [if_pos c87] at H
           have LMc87 := Aside0.mk c87
           clear c87
           obtain ⟨y503, hy503⟩ : ∃ y_ : List Int, y_ = (y500 ++ [0]) := ⟨_, rfl⟩
           replace H : ((meter_Length.f kj8 t467 t468 y496).bind fun bt506 => (if t460 = true then (if t481 = 0 then (if t485 = 0 then (if (t479 == t483 && (t480 == t484)) = true then ((meter_Right.f kj8 t461 t462 t463).bind fun t510 => (if t510 = true then ((meter_Right.f kj8 t467 t468 t469).bind fun t511 => (if t511 = true then ((meter_Right.f kj8 t467 t468 y496).bind fun t512 => (if t512 = true then none else ((meter_Right.f kj8 t467 t468 y503).bind fun t513 => (if t513 = true then none else (if bt506.2.2 = 50 then ((meter_Same.f kj8 t467 t468 t469 t467 t468 y496).bind fun t514 => (some (!t514))) else none))))) else none)) else none)) else none) else none) else none) else none)) = some r := by first | (rw [hy503]; with_reducible exact H) | (have H2_ := (Option.bind_some _ _).symm.trans H; rw [hy503]; with_reducible exact H2_) | (have H2_ := (Option.bind_some _ _).symm.trans H; with_reducible exact H2_) | with_reducible exact H | (rw [hy503]; exact H) | exact H
           have Ny503 := Aside0.mk hy503
           clear hy503
           replace H := Option.bind_eq_some_iff.mp H
           obtain ⟨⟨t506, t507, t508⟩, A880, H⟩ := H
           replace H : (if t460 = true then (if t481 = 0 then (if t485 = 0 then (if (t479 == t483 && (t480 == t484)) = true then ((meter_Right.f kj8 t461 t462 t463).bind fun t510 => (if t510 = true then ((meter_Right.f kj8 t467 t468 t469).bind fun t511 => (if t511 = true then ((meter_Right.f kj8 t467 t468 y496).bind fun t512 => (if t512 = true then none else ((meter_Right.f kj8 t467 t468 y503).bind fun t513 => (if t513 = true then none else (if t508 = 50 then ((meter_Same.f kj8 t467 t468 t469 t467 t468 y496).bind fun t514 => (some (!t514))) else none))))) else none)) else none)) else none) else none) else none) else none) = some r := H
           have A88 := Aside0.mk A880
           clear A880
           by_cases c89 : t460 = true
           · subst c89
             have H1 : (if t481 = 0 then (if t485 = 0 then (if (t479 == t483 && (t480 == t484)) = true then ((meter_Right.f kj8 t461 t462 t463).bind fun t510 => (if t510 = true then ((meter_Right.f kj8 t467 t468 t469).bind fun t511 => (if t511 = true then ((meter_Right.f kj8 t467 t468 y496).bind fun t512 => (if t512 = true then none else ((meter_Right.f kj8 t467 t468 y503).bind fun t513 => (if t513 = true then none else (if t508 = 50 then ((meter_Same.f kj8 t467 t468 t469 t467 t468 y496).bind fun t514 => (some (!t514))) else none))))) else none)) else none)) else none) else none) else none) = some r := by rw [if_pos rfl] at H; exact H
             clear H
             have H := H1
             clear H1
             by_cases c90 : t481 = 0
             · rw [if_pos c90] at H
               have c90b0 : (t481 == 0) = true := beq_iff_eq.mpr c90
               have c90b1 : (t481 != 0) = false := bne_eq_false_iff_eq.mpr c90
               clear c90
               by_cases c91 : t485 = 0
               · rw [if_pos c91] at H
                 have c91b0 : (t485 == 0) = true := beq_iff_eq.mpr c91
                 have c91b1 : (t485 != 0) = false := bne_eq_false_iff_eq.mpr c91
                 clear c91
                 by_cases c92 : (t479 == t483 && (t480 == t484)) = true
                 · rw [if_pos c92] at H
                   have c92b0 : (t479 == t483 && (t480 == t484)) = true := c92
                   (try (have c92b1 : decide (t479 = t483 && (t480 == t484)) = true := by simpa using c92))
                   (try (have c92b2 : (t479 == t483 && (t480 == t484)) = true := by simpa using c92))
                   clear c92
                   replace H := Option.bind_eq_some_iff.mp H
                   obtain ⟨t510, A930, H⟩ := H
                   replace H : (if t510 = true then ((meter_Right.f kj8 t467 t468 t469).bind fun t511 => (if t511 = true then ((meter_Right.f kj8 t467 t468 y496).bind fun t512 => (if t512 = true then none else ((meter_Right.f kj8 t467 t468 y503).bind fun t513 => (if t513 = true then none else (if t508 = 50 then ((meter_Same.f kj8 t467 t468 t469 t467 t468 y496).bind fun t514 => (some (!t514))) else none))))) else none)) else none) = some r := H
                   have A93 := Aside0.mk A930
                   clear A930
                   by_cases c94 : t510 = true
                   · subst c94
                     have H1 : ((meter_Right.f kj8 t467 t468 t469).bind fun t511 => (if t511 = true then ((meter_Right.f kj8 t467 t468 y496).bind fun t512 => (if t512 = true then none else ((meter_Right.f kj8 t467 t468 y503).bind fun t513 => (if t513 = true then none else (if t508 = 50 then ((meter_Same.f kj8 t467 t468 t469 t467 t468 y496).bind fun t514 => (some (!t514))) else none))))) else none)) = some r := by rw [if_pos rfl] at H; exact H
                     clear H
                     have H := H1
                     clear H1
                     replace H := Option.bind_eq_some_iff.mp H
                     obtain ⟨t511, A950, H⟩ := H
                     replace H : (if t511 = true then ((meter_Right.f kj8 t467 t468 y496).bind fun t512 => (if t512 = true then none else ((meter_Right.f kj8 t467 t468 y503).bind fun t513 => (if t513 = true then none else (if t508 = 50 then ((meter_Same.f kj8 t467 t468 t469 t467 t468 y496).bind fun t514 => (some (!t514))) else none))))) else none) = some r := H
                     have A95 := Aside0.mk A950
                     clear A950
                     by_cases c96 : t511 = true
                     · subst c96
                       have H1 : ((meter_Right.f kj8 t467 t468 y496).bind fun t512 => (if t512 = true then none else ((meter_Right.f kj8 t467 t468 y503).bind fun t513 => (if t513 = true then none else (if t508 = 50 then ((meter_Same.f kj8 t467 t468 t469 t467 t468 y496).bind fun t514 => (some (!t514))) else none))))) = some r := by rw [if_pos rfl] at H; exact H
                       clear H
                       have H := H1
                       clear H1
                       replace H := Option.bind_eq_some_iff.mp H
                       obtain ⟨t512, A970, H⟩ := H
                       replace H : (if t512 = true then none else ((meter_Right.f kj8 t467 t468 y503).bind fun t513 => (if t513 = true then none else (if t508 = 50 then ((meter_Same.f kj8 t467 t468 t469 t467 t468 y496).bind fun t514 => (some (!t514))) else none)))) = some r := H
                       have A97 := Aside0.mk A970
                       clear A970
                       by_cases c98 : t512 = true
                       · subst c98
                         have H1 : none = some r := by rw [if_pos rfl] at H; exact H
                         cases H1
                       · replace c98 := Bool.eq_false_iff.mpr c98
                         subst c98
                         have H1 : ((meter_Right.f kj8 t467 t468 y503).bind fun t513 => (if t513 = true then none else (if t508 = 50 then ((meter_Same.f kj8 t467 t468 t469 t467 t468 y496).bind fun t514 => (some (!t514))) else none))) = some r := by rw [if_neg (show ¬ (false = true) by decide)] at H; exact H
                         clear H
                         have H := H1
                         clear H1
                         replace H := Option.bind_eq_some_iff.mp H
                         obtain ⟨t513, A1690, H⟩ := H
                         replace H : (if t513 = true then none else (if t508 = 50 then ((meter_Same.f kj8 t467 t468 t469 t467 t468 y496).bind fun t514 => (some (!t514))) else none)) = some r := H
                         have A169 := Aside0.mk A1690
                         clear A1690
                         by_cases c170 : t513 = true
                         · subst c170
                           have H1 : none = some r := by rw [if_pos rfl] at H; exact H
                           cases H1
                         · replace c170 := Bool.eq_false_iff.mpr c170
                           subst c170
                           have H1 : (if t508 = 50 then ((meter_Same.f kj8 t467 t468 t469 t467 t468 y496).bind fun t514 => (some (!t514))) else none) = some r := by rw [if_neg (show ¬ (false = true) by decide)] at H; exact H
                           clear H
                           have H := H1
                           clear H1
                           by_cases c243 : t508 = 50
                           · rw [if_pos c243] at H
                             have c243b0 : (t508 == 50) = true := beq_iff_eq.mpr c243
                             have c243b1 : (t508 != 50) = false := bne_eq_false_iff_eq.mpr c243
                             clear c243
                             replace H := Option.bind_eq_some_iff.mp H
                             obtain ⟨t514, A2440, H⟩ := H
                             replace H : (some (!t514)) = some r := H
                             have A244 := Aside0.mk A2440
                             clear A2440
                             obtain rfl := Option.some.inj H
                             have hnb245 := NB472_458.out
                             have hnc245 := NB458_472.out
                             have hnb246 := NB472_459.out
                             have hnc246 := NB459_472.out
                             have hnb247 := NB472_466.out
                             have hnc247 := NB466_472.out
                             have hnb248 := NB472_478.out
                             have hnc248 := NB478_472.out
                             have hnb249 := NB472_482.out
                             have hnc249 := NB482_472.out
                             have hnb250 := NB472_486.out
                             have hnc250 := NB486_472.out
                             have hcz251_0 : wc.cell? ⟨gb472, 0, none⟩ = some (.int .i64 t467) := (blk_cell BK472.out 0).trans rfl
                             have hcz251_1 : wc.cell? ⟨gb472, 1, none⟩ = some (.int .i64 t468) := (blk_cell BK472.out 1).trans rfl
                             have hcz251_2 : wc.cell? ⟨gb472, 2, none⟩ = some (.slice Ao28 t469.length co28) := (blk_cell BK472.out 2).trans rfl
                             have hfz251_0 := blk_frozen BK472.out 0
                             have hfz251_1 := blk_frozen BK472.out 1
                             have hfz251_2 := blk_frozen BK472.out 2
                             go_wp2_with (first | ((with_reducible refine gate_dst (N := 13) rfl ?_); refine box_event ?hg (N := 13) ?hd (cs := #[.int .i64 0, .int .i64 0, .slice none 0 0]) (t := 24) ?hr ?_; (case hd => rfl); (case hg => rfl); (case hr => first | (go_simp; done) | (go_simp; rfl)); intro gb492 hg w252 hbox hb; have n0_ := Aside0.mk (Kd.R_below (qR HO_467002.out) hb); have n1_ := Aside0.mk (Kd.R_below (qR HO_473002.out) hb); have n2_ := Aside0.mk (Kd.R_below (qR HO_479002.out) hb); have n3_ := Aside0.mk (blk_below (qB BK458.out) hb); have n4_ := Aside0.mk (blk_below (qB BK459.out) hb); have n5_ := Aside0.mk (blk_below (qB BK466.out) hb); have n6_ := Aside0.mk (blk_below (qB BK472.out) hb); have n7_ := Aside0.mk (blk_below (qB BK478.out) hb); have n8_ := Aside0.mk (blk_below (qB BK482.out) hb); have n9_ := Aside0.mk (blk_below (qB BK486.out) hb); have n10_ := Aside0.mk (below_step (by repeat (first | (with_reducible first | exact HB.out | apply below_alloc | apply pw_below_drewN | apply below_drew1 | refine below_set ?_ (Aside0.out (by assumption))) | exact HB.out)) hb); have n11_ := Aside0.mk (hbox); have n12_ := Aside0.mk ((by rw [hg]; exact (below_size (by repeat (first | (with_reducible first | exact HB.out | apply below_alloc | apply pw_below_drewN | apply below_drew1 | refine below_set ?_ (Aside0.out (by assumption))) | exact HB.out))) : w.heap.size ≤ gb492)); have n13_ := Aside0.mk ((by rw [hg]; exact (below_size (by repeat (first | (with_reducible first | exact HB.out | apply below_alloc | apply pw_below_drewN | apply below_drew1 | refine below_set ?_ (Aside0.out (by assumption))) | exact HB.out))) : w.heap.size ≤ gb492)); have n14_ := Aside0.mk ((by rw [hg]; exact Nat.ne_of_lt (blk_lt (qB BK458.out)) : gb458 ≠ gb492)); have n15_ := Aside0.mk ((by rw [hg]; exact Nat.ne_of_gt (blk_lt (qB BK458.out)) : gb492 ≠ gb458)); have n16_ := Aside0.mk ((by rw [hg]; exact Nat.ne_of_lt (blk_lt (qB BK459.out)) : gb459 ≠ gb492)); have n17_ := Aside0.mk ((by rw [hg]; exact Nat.ne_of_gt (blk_lt (qB BK459.out)) : gb492 ≠ gb459)); have n18_ := Aside0.mk ((by rw [hg]; exact Nat.ne_of_lt (blk_lt (qB BK466.out)) : gb466 ≠ gb492)); have n19_ := Aside0.mk ((by rw [hg]; exact Nat.ne_of_gt (blk_lt (qB BK466.out)) : gb492 ≠ gb466)); have n20_ := Aside0.mk ((by rw [hg]; exact Nat.ne_of_lt (blk_lt (qB BK472.out)) : gb472 ≠ gb492)); have n21_ := Aside0.mk ((by rw [hg]; exact Nat.ne_of_gt (blk_lt (qB BK472.out)) : gb492 ≠ gb472)); have n22_ := Aside0.mk ((by rw [hg]; exact Nat.ne_of_lt (blk_lt (qB BK478.out)) : gb478 ≠ gb492)); have n23_ := Aside0.mk ((by rw [hg]; exact Nat.ne_of_gt (blk_lt (qB BK478.out)) : gb492 ≠ gb478)); have n24_ := Aside0.mk ((by rw [hg]; exact Nat.ne_of_lt (blk_lt (qB BK482.out)) : gb482 ≠ gb492)); have n25_ := Aside0.mk ((by rw [hg]; exact Nat.ne_of_gt (blk_lt (qB BK482.out)) : gb492 ≠ gb482)); have n26_ := Aside0.mk ((by rw [hg]; exact Nat.ne_of_lt (blk_lt (qB BK486.out)) : gb486 ≠ gb492)); have n27_ := Aside0.mk ((by rw [hg]; exact Nat.ne_of_gt (blk_lt (qB BK486.out)) : gb492 ≠ gb486)); clear HO_467002; clear HO_473002; clear HO_479002; clear BK458; clear BK459; clear BK466; clear BK472; clear BK478; clear BK482; clear BK486; clear HB; have HO_467002 := n0_; have HO_473002 := n1_; have HO_479002 := n2_; have BK458 := n3_; have BK459 := n4_; have BK466 := n5_; have BK472 := n6_; have BK478 := n7_; have BK482 := n8_; have BK486 := n9_; have HB := n10_; have BK492 := n11_; have GW492 := n12_; have GE492 := n13_; have NB458_492 := n14_; have NB492_458 := n15_; have NB459_492 := n16_; have NB492_459 := n17_; have NB466_492 := n18_; have NB492_466 := n19_; have NB472_492 := n20_; have NB492_472 := n21_; have NB478_492 := n22_; have NB492_478 := n23_; have NB482_492 := n24_; have NB492_482 := n25_; have NB486_492 := n26_; have NB492_486 := n27_; clear n0_ n1_ n2_ n3_ n4_ n5_ n6_ n7_ n8_ n9_ n10_ n11_ n12_ n13_ n14_ n15_ n16_ n17_ n18_ n19_ n20_ n21_ n22_ n23_ n24_ n25_ n26_ n27_; clear hb hbox hg; have hnb253 := NB492_458.out; have hnc253 := NB458_492.out; have hnb254 := NB492_459.out; have hnc254 := NB459_492.out; have hnb255 := NB492_466.out; have hnc255 := NB466_492.out; have hnb256 := NB492_472.out; have hnc256 := NB472_492.out; have hnb257 := NB492_478.out; have hnc257 := NB478_492.out; have hnb258 := NB492_482.out; have hnc258 := NB482_492.out; have hnb259 := NB492_486.out; have hnc259 := NB486_492.out; have hcz260_0 : w252.cell? ⟨gb492, 0, none⟩ = some (.int .i64 0) := (blk_cell BK492.out 0).trans rfl; have hcz260_1 : w252.cell? ⟨gb492, 1, none⟩ = some (.int .i64 0) := (blk_cell BK492.out 1).trans rfl; have hcz260_2 : w252.cell? ⟨gb492, 2, none⟩ = some (.slice none 0 0) := (blk_cell BK492.out 2).trans rfl; have hfz260_0 := blk_frozen BK492.out 0; have hfz260_1 := blk_frozen BK492.out 1; have hfz260_2 := blk_frozen BK492.out 2; have hcz261_0 : w252.cell? ⟨gb472, 0, none⟩ = some (.int .i64 t467) := (blk_cell BK472.out 0).trans rfl; have hcz261_1 : w252.cell? ⟨gb472, 1, none⟩ = some (.int .i64 t468) := (blk_cell BK472.out 1).trans rfl; have hcz261_2 : w252.cell? ⟨gb472, 2, none⟩ = some (.slice Ao28 t469.length co28) := (blk_cell BK472.out 2).trans rfl; have hfz261_0 := blk_frozen BK472.out 0; have hfz261_1 := blk_frozen BK472.out 1; have hfz261_2 := blk_frozen BK472.out 2) | ((with_reducible refine gate_builtin (b := .append) (xs := #[.const (.slice none 0 0), .tmp 60]) rfl ?_); at_builtin; refine Kd.R_append_rows (Kd.int .i64) (w0 := w) w.heap.size rfl (.const (.slice none 0 0)) (.tmp 60) 22 3 (.int .i64 0) 8 rfl Try.underlying22 info3 rfl (by decide) (by omega) (.slice none 0 0) ([] : List Int) t469 _ _ _ (fun k_ => some k_ ≠ (.slice Ao20 t463.length co20 : Value).ownBlock ∧ some k_ ≠ (.slice Ao28 t469.length co28 : Value).ownBlock ∧ some k_ ≠ (.slice Ao37 t475.length co37 : Value).ownBlock) (fun _ => False) rfl rfl ?aO ?aR (fun _ _ h => h) (fun _ h => h.elim) ?aF ?aB ?aS ?aL ?_; (case aR => refine (Kd.R_reads' (e := 3) (base := w.heap.size) (ok := fun k_ => (some k_ ≠ (.slice Ao20 t463.length co20 : Value).ownBlock ∧ some k_ ≠ (.slice Ao37 t475.length co37 : Value).ownBlock)) (n := t469.length) (c := co28) ?_).2.2; exact (qR ((Kd.R_mono (Kd.R_far (p := ⟨gb492, 2, none⟩) (Kd.R_far (p := ⟨gb492, 1, none⟩) (Kd.R_far (p := ⟨gb492, 0, none⟩) (Kd.R_types HO_473002.out BK492.out (by decide)) (fun _ hk => hk.2) (.int .i64 t467)) (fun _ hk => hk.2) (.int .i64 t468)) (fun _ hk => hk.2) (.slice Ao28 t469.length co28)) (fun _ h_ => h_.1))))); (case aB => exact (by repeat (first | (with_reducible first | exact HB.out | apply below_alloc | apply pw_below_drewN | apply below_drew1 | refine below_set ?_ (Aside0.out (by assumption))) | exact HB.out))); (case aF => exact (fun k_ hk => ⟨Kd.fresh' (Kd.R_lt (qR ((Kd.R_mono (Kd.R_far (p := ⟨gb492, 2, none⟩) (Kd.R_far (p := ⟨gb492, 1, none⟩) (Kd.R_far (p := ⟨gb492, 0, none⟩) (Kd.R_types HO_467002.out BK492.out (by decide)) (fun _ hk => hk.2) (.int .i64 t467)) (fun _ hk => hk.2) (.int .i64 t468)) (fun _ hk => hk.2) (.slice Ao28 t469.length co28)) (fun _ h_ => h_.1))))) k_ hk, Kd.fresh' (Kd.R_lt (qR ((Kd.R_mono (Kd.R_far (p := ⟨gb492, 2, none⟩) (Kd.R_far (p := ⟨gb492, 1, none⟩) (Kd.R_far (p := ⟨gb492, 0, none⟩) (Kd.R_types HO_473002.out BK492.out (by decide)) (fun _ hk => hk.2) (.int .i64 t467)) (fun _ hk => hk.2) (.int .i64 t468)) (fun _ hk => hk.2) (.slice Ao28 t469.length co28)) (fun _ h_ => h_.1))))) k_ hk, Kd.fresh' (Kd.R_lt (qR ((Kd.R_mono (Kd.R_far (p := ⟨gb492, 2, none⟩) (Kd.R_far (p := ⟨gb492, 1, none⟩) (Kd.R_far (p := ⟨gb492, 0, none⟩) (Kd.R_types HO_479002.out BK492.out (by decide)) (fun _ hk => hk.2) (.int .i64 t467)) (fun _ hk => hk.2) (.int .i64 t468)) (fun _ hk => hk.2) (.slice Ao28 t469.length co28)) (fun _ h_ => h_.1))))) k_ hk⟩)); (case aO => exact ((Kd.R_nil _ _ _ _ (fun k_ => some k_ ≠ (.slice Ao20 t463.length co20 : Value).ownBlock ∧ some k_ ≠ (.slice Ao28 t469.length co28 : Value).ownBlock ∧ some k_ ≠ (.slice Ao37 t475.length co37 : Value).ownBlock)))); (case aS => exact (below_size (by repeat (first | (with_reducible first | exact HB.out | apply below_alloc | apply pw_below_drewN | apply below_drew1 | refine below_set ?_ (Aside0.out (by assumption))) | exact HB.out)))); (case aL => have := LMc85.out; omega); intro v494 w262 ho hb hg hat; rw [← Ny493.out] at ho; have n0_ := Aside0.mk (Kd.R_after (Kd.R_apart_nil (qR ((Kd.R_mono (Kd.R_far (p := ⟨gb492, 2, none⟩) (Kd.R_far (p := ⟨gb492, 1, none⟩) (Kd.R_far (p := ⟨gb492, 0, none⟩) (Kd.R_types HO_467002.out BK492.out (by decide)) (fun _ hk => hk.2) (.int .i64 t467)) (fun _ hk => hk.2) (.int .i64 t468)) (fun _ hk => hk.2) (.slice Ao28 t469.length co28)) (fun _ h_ => h_.1))))) hg hat); have n1_ := Aside0.mk (Kd.R_after (Kd.R_apart_nil (qR ((Kd.R_mono (Kd.R_far (p := ⟨gb492, 2, none⟩) (Kd.R_far (p := ⟨gb492, 1, none⟩) (Kd.R_far (p := ⟨gb492, 0, none⟩) (Kd.R_types HO_473002.out BK492.out (by decide)) (fun _ hk => hk.2) (.int .i64 t467)) (fun _ hk => hk.2) (.int .i64 t468)) (fun _ hk => hk.2) (.slice Ao28 t469.length co28)) (fun _ h_ => h_.1))))) hg hat); have n2_ := Aside0.mk (Kd.R_after (Kd.R_apart_nil (qR ((Kd.R_mono (Kd.R_far (p := ⟨gb492, 2, none⟩) (Kd.R_far (p := ⟨gb492, 1, none⟩) (Kd.R_far (p := ⟨gb492, 0, none⟩) (Kd.R_types HO_479002.out BK492.out (by decide)) (fun _ hk => hk.2) (.int .i64 t467)) (fun _ hk => hk.2) (.int .i64 t468)) (fun _ hk => hk.2) (.slice Ao28 t469.length co28)) (fun _ h_ => h_.1))))) hg hat); have n3_ := Aside0.mk (blk_grown (g := gb458) (o := .cells #[.int .i64 a0_0, .int .i64 a0_1, .slice A0_2 l0_2.length c0_2] 24 (0, 0)) (by (with_reducible repeat (first | refine blk_drewN ?_ _ | refine blk_drew ?_ | refine blk_alloc ?_ _)); refine blk_far ?_ NB458_492.out _; (with_reducible repeat (first | refine blk_drewN ?_ _ | refine blk_drew ?_ | refine blk_alloc ?_ _)); refine blk_far ?_ NB458_492.out _; (with_reducible repeat (first | refine blk_drewN ?_ _ | refine blk_drew ?_ | refine blk_alloc ?_ _)); refine blk_far ?_ NB458_492.out _; (with_reducible repeat (first | refine blk_drewN ?_ _ | refine blk_drew ?_ | refine blk_alloc ?_ _)); exact BK458.out) hg (by simp [Value.ownBlock])); have n4_ := Aside0.mk (blk_grown (g := gb459) (o := .cells #[.int .i64 a1_0, .int .i64 a1_1, .slice A1_2 l1_2.length c1_2] 24 (0, 0)) (by (with_reducible repeat (first | refine blk_drewN ?_ _ | refine blk_drew ?_ | refine blk_alloc ?_ _)); refine blk_far ?_ NB459_492.out _; (with_reducible repeat (first | refine blk_drewN ?_ _ | refine blk_drew ?_ | refine blk_alloc ?_ _)); refine blk_far ?_ NB459_492.out _; (with_reducible repeat (first | refine blk_drewN ?_ _ | refine blk_drew ?_ | refine blk_alloc ?_ _)); refine blk_far ?_ NB459_492.out _; (with_reducible repeat (first | refine blk_drewN ?_ _ | refine blk_drew ?_ | refine blk_alloc ?_ _)); exact BK459.out) hg (by simp [Value.ownBlock])); have n5_ := Aside0.mk (blk_grown (g := gb466) (o := .cells #[.int .i64 t461, .int .i64 t462, .slice Ao20 t463.length co20] 24 (0, 0)) (by (with_reducible repeat (first | refine blk_drewN ?_ _ | refine blk_drew ?_ | refine blk_alloc ?_ _)); refine blk_far ?_ NB466_492.out _; (with_reducible repeat (first | refine blk_drewN ?_ _ | refine blk_drew ?_ | refine blk_alloc ?_ _)); refine blk_far ?_ NB466_492.out _; (with_reducible repeat (first | refine blk_drewN ?_ _ | refine blk_drew ?_ | refine blk_alloc ?_ _)); refine blk_far ?_ NB466_492.out _; (with_reducible repeat (first | refine blk_drewN ?_ _ | refine blk_drew ?_ | refine blk_alloc ?_ _)); exact BK466.out) hg (by simp [Value.ownBlock])); have n6_ := Aside0.mk (blk_grown (g := gb472) (o := .cells #[.int .i64 t467, .int .i64 t468, .slice Ao28 t469.length co28] 24 (0, 0)) (by (with_reducible repeat (first | refine blk_drewN ?_ _ | refine blk_drew ?_ | refine blk_alloc ?_ _)); refine blk_far ?_ NB472_492.out _; (with_reducible repeat (first | refine blk_drewN ?_ _ | refine blk_drew ?_ | refine blk_alloc ?_ _)); refine blk_far ?_ NB472_492.out _; (with_reducible repeat (first | refine blk_drewN ?_ _ | refine blk_drew ?_ | refine blk_alloc ?_ _)); refine blk_far ?_ NB472_492.out _; (with_reducible repeat (first | refine blk_drewN ?_ _ | refine blk_drew ?_ | refine blk_alloc ?_ _)); exact BK472.out) hg (by simp [Value.ownBlock])); have n7_ := Aside0.mk (blk_grown (g := gb478) (o := .cells #[.int .i64 t473, .int .i64 t474, .slice Ao37 t475.length co37] 24 (0, 0)) (by (with_reducible repeat (first | refine blk_drewN ?_ _ | refine blk_drew ?_ | refine blk_alloc ?_ _)); refine blk_far ?_ NB478_492.out _; (with_reducible repeat (first | refine blk_drewN ?_ _ | refine blk_drew ?_ | refine blk_alloc ?_ _)); refine blk_far ?_ NB478_492.out _; (with_reducible repeat (first | refine blk_drewN ?_ _ | refine blk_drew ?_ | refine blk_alloc ?_ _)); refine blk_far ?_ NB478_492.out _; (with_reducible repeat (first | refine blk_drewN ?_ _ | refine blk_drew ?_ | refine blk_alloc ?_ _)); exact BK478.out) hg (by simp [Value.ownBlock])); have n8_ := Aside0.mk (blk_grown (g := gb482) (o := .cells #[.int .i64 t479, .int .i64 t480] 26 (0, 0)) (by (with_reducible repeat (first | refine blk_drewN ?_ _ | refine blk_drew ?_ | refine blk_alloc ?_ _)); refine blk_far ?_ NB482_492.out _; (with_reducible repeat (first | refine blk_drewN ?_ _ | refine blk_drew ?_ | refine blk_alloc ?_ _)); refine blk_far ?_ NB482_492.out _; (with_reducible repeat (first | refine blk_drewN ?_ _ | refine blk_drew ?_ | refine blk_alloc ?_ _)); refine blk_far ?_ NB482_492.out _; (with_reducible repeat (first | refine blk_drewN ?_ _ | refine blk_drew ?_ | refine blk_alloc ?_ _)); exact BK482.out) hg (by simp [Value.ownBlock])); have n9_ := Aside0.mk (blk_grown (g := gb486) (o := .cells #[.int .i64 t483, .int .i64 t484] 26 (0, 0)) (by (with_reducible repeat (first | refine blk_drewN ?_ _ | refine blk_drew ?_ | refine blk_alloc ?_ _)); refine blk_far ?_ NB486_492.out _; (with_reducible repeat (first | refine blk_drewN ?_ _ | refine blk_drew ?_ | refine blk_alloc ?_ _)); refine blk_far ?_ NB486_492.out _; (with_reducible repeat (first | refine blk_drewN ?_ _ | refine blk_drew ?_ | refine blk_alloc ?_ _)); refine blk_far ?_ NB486_492.out _; (with_reducible repeat (first | refine blk_drewN ?_ _ | refine blk_drew ?_ | refine blk_alloc ?_ _)); exact BK486.out) hg (by simp [Value.ownBlock])); have n10_ := Aside0.mk (blk_grown (g := gb492) (o := .cells #[.int .i64 t467, .int .i64 t468, .slice Ao28 t469.length co28] 24 (0, 0)) (by (with_reducible repeat (first | refine blk_drewN ?_ _ | refine blk_drew ?_ | refine blk_alloc ?_ _)); refine blk_put (cs := #[.int .i64 t467, .int .i64 t468, .slice none 0 0]) ?_ 2 _ rfl; (with_reducible repeat (first | refine blk_drewN ?_ _ | refine blk_drew ?_ | refine blk_alloc ?_ _)); refine blk_put (cs := #[.int .i64 t467, .int .i64 0, .slice none 0 0]) ?_ 1 _ rfl; (with_reducible repeat (first | refine blk_drewN ?_ _ | refine blk_drew ?_ | refine blk_alloc ?_ _)); refine blk_put (cs := #[.int .i64 0, .int .i64 0, .slice none 0 0]) ?_ 0 _ rfl; (with_reducible repeat (first | refine blk_drewN ?_ _ | refine blk_drew ?_ | refine blk_alloc ?_ _)); exact BK492.out) hg (by simp [Value.ownBlock])); have n11_ := Aside0.mk (hb); have n12_ := Aside0.mk (ho); clear HO_467002; clear HO_473002; clear HO_479002; clear BK458; clear BK459; clear BK466; clear BK472; clear BK478; clear BK482; clear BK486; clear BK492; clear HB; have HO_467002 := n0_; have HO_473002 := n1_; have HO_479002 := n2_; have BK458 := n3_; have BK459 := n4_; have BK466 := n5_; have BK472 := n6_; have BK478 := n7_; have BK482 := n8_; have BK486 := n9_; have BK492 := n10_; have HB := n11_; have HO495 := n12_; clear n0_ n1_ n2_ n3_ n4_ n5_ n6_ n7_ n8_ n9_ n10_ n11_ n12_; clear ho hb hg hat) | ((with_reducible refine gate_builtin (b := .append) (xs := #[.tmp 61, .tmp 62]) rfl ?_); at_builtin; refine Kd.R_append (Kd.int .i64) (w0 := w) w.heap.size rfl (.tmp 61) (.tmp 62) 22 3 (.int .i64 0) 8 rfl Try.underlying22 info3 rfl (by decide) (by omega) v494 y493 1 [.int .i64 1] (fun k_ => some k_ ≠ (.slice Ao20 t463.length co20 : Value).ownBlock ∧ some k_ ≠ (.slice Ao28 t469.length co28 : Value).ownBlock ∧ some k_ ≠ (.slice Ao37 t475.length co37 : Value).ownBlock) (fun _ => False) rfl rfl ?aP (fun _ hk => hk.elim) ?aF ?aO ?aB ?aS ?aL ?_; (case aP => exact rfl); (case aB => exact (by repeat (first | (with_reducible first | exact HB.out | apply below_alloc | apply pw_below_drewN | apply below_drew1 | refine below_set ?_ (Aside0.out (by assumption))) | exact HB.out))); (case aF => exact (fun k_ hk => ⟨Kd.fresh' (Kd.R_lt (qR HO_467002.out)) k_ hk, Kd.fresh' (Kd.R_lt (qR HO_473002.out)) k_ hk, Kd.fresh' (Kd.R_lt (qR HO_479002.out)) k_ hk⟩)); (case aO => exact (qR HO495.out)); (case aS => exact (below_size (by repeat (first | (with_reducible first | exact HB.out | apply below_alloc | apply pw_below_drewN | apply below_drew1 | refine below_set ?_ (Aside0.out (by assumption))) | exact HB.out)))); (case aL => have := LMc86.out; omega); intro v497 w263 ho hb hg hat; rw [← Ny496.out] at ho; have n0_ := Aside0.mk (Kd.R_after (ok := (fun k_ => some k_ ≠ (.slice Ao28 t469.length co28 : Value).ownBlock ∧ some k_ ≠ (.slice Ao37 t475.length co37 : Value).ownBlock)) (qR HO_467002.out) hg hat); have n1_ := Aside0.mk (Kd.R_after (ok := (fun k_ => some k_ ≠ (.slice Ao20 t463.length co20 : Value).ownBlock ∧ some k_ ≠ (.slice Ao37 t475.length co37 : Value).ownBlock)) (qR HO_473002.out) hg hat); have n2_ := Aside0.mk (Kd.R_after (ok := (fun k_ => some k_ ≠ (.slice Ao20 t463.length co20 : Value).ownBlock ∧ some k_ ≠ (.slice Ao28 t469.length co28 : Value).ownBlock)) (qR HO_479002.out) hg hat); have n3_ := Aside0.mk (blk_grown (qB BK458.out) hg (Kd.R_ne HO495.out BK458.out (by decide))); have n4_ := Aside0.mk (blk_grown (qB BK459.out) hg (Kd.R_ne HO495.out BK459.out (by decide))); have n5_ := Aside0.mk (blk_grown (qB BK466.out) hg (Kd.R_ne HO495.out BK466.out (by decide))); have n6_ := Aside0.mk (blk_grown (qB BK472.out) hg (Kd.R_ne HO495.out BK472.out (by decide))); have n7_ := Aside0.mk (blk_grown (qB BK478.out) hg (Kd.R_ne HO495.out BK478.out (by decide))); have n8_ := Aside0.mk (blk_grown (qB BK482.out) hg (Kd.R_ne HO495.out BK482.out (by decide))); have n9_ := Aside0.mk (blk_grown (qB BK486.out) hg (Kd.R_ne HO495.out BK486.out (by decide))); have n10_ := Aside0.mk (blk_grown (qB BK492.out) hg (Kd.R_ne HO495.out BK492.out (by decide))); have n11_ := Aside0.mk (hb); have n12_ := Aside0.mk (ho); clear HO_467002; clear HO_473002; clear HO_479002; clear BK458; clear BK459; clear BK466; clear BK472; clear BK478; clear BK482; clear BK486; clear BK492; clear HB; clear HO495; have HO_467002 := n0_; have HO_473002 := n1_; have HO_479002 := n2_; have BK458 := n3_; have BK459 := n4_; have BK466 := n5_; have BK472 := n6_; have BK478 := n7_; have BK482 := n8_; have BK486 := n9_; have BK492 := n10_; have HB := n11_; have HO498 := n12_; clear n0_ n1_ n2_ n3_ n4_ n5_ n6_ n7_ n8_ n9_ n10_ n11_ n12_; clear ho hb hg hat; obtain ⟨Ao264, co264, eo264⟩ := Kd.R_slice HO498.out; subst eo264; have hcz265_0 : w263.cell? ⟨gb492, 0, none⟩ = some (.int .i64 t467) := (blk_cell BK492.out 0).trans rfl; have hcz265_1 : w263.cell? ⟨gb492, 1, none⟩ = some (.int .i64 t468) := (blk_cell BK492.out 1).trans rfl; have hcz265_2 : w263.cell? ⟨gb492, 2, none⟩ = some (.slice Ao28 t469.length co28) := (blk_cell BK492.out 2).trans rfl; have hfz265_0 := blk_frozen BK492.out 0; have hfz265_1 := blk_frozen BK492.out 1; have hfz265_2 := blk_frozen BK492.out 2; have hcz266_0 : w263.cell? ⟨gb472, 0, none⟩ = some (.int .i64 t467) := (blk_cell BK472.out 0).trans rfl; have hcz266_1 : w263.cell? ⟨gb472, 1, none⟩ = some (.int .i64 t468) := (blk_cell BK472.out 1).trans rfl; have hcz266_2 : w263.cell? ⟨gb472, 2, none⟩ = some (.slice Ao28 t469.length co28) := (blk_cell BK472.out 2).trans rfl; have hfz266_0 := blk_frozen BK472.out 0; have hfz266_1 := blk_frozen BK472.out 1; have hfz266_2 := blk_frozen BK472.out 2) | ((with_reducible refine gate_dst (N := 14) rfl ?_); refine box_event ?hg (N := 14) ?hd (cs := #[.int .i64 0, .int .i64 0, .slice none 0 0]) (t := 24) ?hr ?_; (case hd => rfl); (case hg => rfl); (case hr => first | (go_simp; done) | (go_simp; rfl)); intro gb499 hg w267 hbox hb; have n0_ := Aside0.mk (Kd.R_below (qR ((Kd.R_mono (Kd.R_far (p := ⟨gb492, 2, none⟩) (Kd.R_types HO_467002.out BK492.out (by decide)) (fun _ hk => hk.2) (.slice Ao264 y496.length co264)) (fun _ h_ => h_.1)))) hb); have n1_ := Aside0.mk (Kd.R_below (qR ((Kd.R_mono (Kd.R_far (p := ⟨gb492, 2, none⟩) (Kd.R_types HO_473002.out BK492.out (by decide)) (fun _ hk => hk.2) (.slice Ao264 y496.length co264)) (fun _ h_ => h_.1)))) hb); have n2_ := Aside0.mk (Kd.R_below (qR ((Kd.R_mono (Kd.R_far (p := ⟨gb492, 2, none⟩) (Kd.R_types HO_479002.out BK492.out (by decide)) (fun _ hk => hk.2) (.slice Ao264 y496.length co264)) (fun _ h_ => h_.1)))) hb); have n3_ := Aside0.mk (Kd.R_below (qR ((Kd.R_mono (Kd.R_far (p := ⟨gb492, 2, none⟩) (Kd.R_types HO498.out BK492.out (by decide)) (fun _ hk => hk.2) (.slice Ao264 y496.length co264)) (fun _ h_ => h_.1)))) hb); have n4_ := Aside0.mk (blk_below (g := gb458) (o := .cells #[.int .i64 a0_0, .int .i64 a0_1, .slice A0_2 l0_2.length c0_2] 24 (0, 0)) (by (with_reducible repeat (first | refine blk_drewN ?_ _ | refine blk_drew ?_ | refine blk_alloc ?_ _)); refine blk_far ?_ NB458_492.out _; (with_reducible repeat (first | refine blk_drewN ?_ _ | refine blk_drew ?_ | refine blk_alloc ?_ _)); exact BK458.out) hb); have n5_ := Aside0.mk (blk_below (g := gb459) (o := .cells #[.int .i64 a1_0, .int .i64 a1_1, .slice A1_2 l1_2.length c1_2] 24 (0, 0)) (by (with_reducible repeat (first | refine blk_drewN ?_ _ | refine blk_drew ?_ | refine blk_alloc ?_ _)); refine blk_far ?_ NB459_492.out _; (with_reducible repeat (first | refine blk_drewN ?_ _ | refine blk_drew ?_ | refine blk_alloc ?_ _)); exact BK459.out) hb); have n6_ := Aside0.mk (blk_below (g := gb466) (o := .cells #[.int .i64 t461, .int .i64 t462, .slice Ao20 t463.length co20] 24 (0, 0)) (by (with_reducible repeat (first | refine blk_drewN ?_ _ | refine blk_drew ?_ | refine blk_alloc ?_ _)); refine blk_far ?_ NB466_492.out _; (with_reducible repeat (first | refine blk_drewN ?_ _ | refine blk_drew ?_ | refine blk_alloc ?_ _)); exact BK466.out) hb); have n7_ := Aside0.mk (blk_below (g := gb472) (o := .cells #[.int .i64 t467, .int .i64 t468, .slice Ao28 t469.length co28] 24 (0, 0)) (by (with_reducible repeat (first | refine blk_drewN ?_ _ | refine blk_drew ?_ | refine blk_alloc ?_ _)); refine blk_far ?_ NB472_492.out _; (with_reducible repeat (first | refine blk_drewN ?_ _ | refine blk_drew ?_ | refine blk_alloc ?_ _)); exact BK472.out) hb); have n8_ := Aside0.mk (blk_below (g := gb478) (o := .cells #[.int .i64 t473, .int .i64 t474, .slice Ao37 t475.length co37] 24 (0, 0)) (by (with_reducible repeat (first | refine blk_drewN ?_ _ | refine blk_drew ?_ | refine blk_alloc ?_ _)); refine blk_far ?_ NB478_492.out _; (with_reducible repeat (first | refine blk_drewN ?_ _ | refine blk_drew ?_ | refine blk_alloc ?_ _)); exact BK478.out) hb); have n9_ := Aside0.mk (blk_below (g := gb482) (o := .cells #[.int .i64 t479, .int .i64 t480] 26 (0, 0)) (by (with_reducible repeat (first | refine blk_drewN ?_ _ | refine blk_drew ?_ | refine blk_alloc ?_ _)); refine blk_far ?_ NB482_492.out _; (with_reducible repeat (first | refine blk_drewN ?_ _ | refine blk_drew ?_ | refine blk_alloc ?_ _)); exact BK482.out) hb); have n10_ := Aside0.mk (blk_below (g := gb486) (o := .cells #[.int .i64 t483, .int .i64 t484] 26 (0, 0)) (by (with_reducible repeat (first | refine blk_drewN ?_ _ | refine blk_drew ?_ | refine blk_alloc ?_ _)); refine blk_far ?_ NB486_492.out _; (with_reducible repeat (first | refine blk_drewN ?_ _ | refine blk_drew ?_ | refine blk_alloc ?_ _)); exact BK486.out) hb); have n11_ := Aside0.mk (blk_below (g := gb492) (o := .cells #[.int .i64 t467, .int .i64 t468, .slice Ao264 y496.length co264] 24 (0, 0)) (by (with_reducible repeat (first | refine blk_drewN ?_ _ | refine blk_drew ?_ | refine blk_alloc ?_ _)); refine blk_put (cs := #[.int .i64 t467, .int .i64 t468, .slice Ao28 t469.length co28]) ?_ 2 _ rfl; (with_reducible repeat (first | refine blk_drewN ?_ _ | refine blk_drew ?_ | refine blk_alloc ?_ _)); exact BK492.out) hb); have n12_ := Aside0.mk (below_step (by repeat (first | (with_reducible first | exact HB.out | apply below_alloc | apply pw_below_drewN | apply below_drew1 | refine below_set ?_ (Aside0.out (by assumption))) | exact HB.out)) hb); have n13_ := Aside0.mk (hbox); have n14_ := Aside0.mk ((by rw [hg]; exact (below_size (by repeat (first | (with_reducible first | exact HB.out | apply below_alloc | apply pw_below_drewN | apply below_drew1 | refine below_set ?_ (Aside0.out (by assumption))) | exact HB.out))) : w.heap.size ≤ gb499)); have n15_ := Aside0.mk ((by rw [hg]; exact (below_size (by repeat (first | (with_reducible first | exact HB.out | apply below_alloc | apply pw_below_drewN | apply below_drew1 | refine below_set ?_ (Aside0.out (by assumption))) | exact HB.out))) : w.heap.size ≤ gb499)); have n16_ := Aside0.mk ((by rw [hg]; exact Nat.ne_of_lt (blk_lt (g := gb458) (o := .cells #[.int .i64 a0_0, .int .i64 a0_1, .slice A0_2 l0_2.length c0_2] 24 (0, 0)) (by (with_reducible repeat (first | refine blk_drewN ?_ _ | refine blk_drew ?_ | refine blk_alloc ?_ _)); refine blk_far ?_ NB458_492.out _; (with_reducible repeat (first | refine blk_drewN ?_ _ | refine blk_drew ?_ | refine blk_alloc ?_ _)); exact BK458.out)) : gb458 ≠ gb499)); have n17_ := Aside0.mk ((by rw [hg]; exact Nat.ne_of_gt (blk_lt (g := gb458) (o := .cells #[.int .i64 a0_0, .int .i64 a0_1, .slice A0_2 l0_2.length c0_2] 24 (0, 0)) (by (with_reducible repeat (first | refine blk_drewN ?_ _ | refine blk_drew ?_ | refine blk_alloc ?_ _)); refine blk_far ?_ NB458_492.out _; (with_reducible repeat (first | refine blk_drewN ?_ _ | refine blk_drew ?_ | refine blk_alloc ?_ _)); exact BK458.out)) : gb499 ≠ gb458)); have n18_ := Aside0.mk ((by rw [hg]; exact Nat.ne_of_lt (blk_lt (g := gb459) (o := .cells #[.int .i64 a1_0, .int .i64 a1_1, .slice A1_2 l1_2.length c1_2] 24 (0, 0)) (by (with_reducible repeat (first | refine blk_drewN ?_ _ | refine blk_drew ?_ | refine blk_alloc ?_ _)); refine blk_far ?_ NB459_492.out _; (with_reducible repeat (first | refine blk_drewN ?_ _ | refine blk_drew ?_ | refine blk_alloc ?_ _)); exact BK459.out)) : gb459 ≠ gb499)); have n19_ := Aside0.mk ((by rw [hg]; exact Nat.ne_of_gt (blk_lt (g := gb459) (o := .cells #[.int .i64 a1_0, .int .i64 a1_1, .slice A1_2 l1_2.length c1_2] 24 (0, 0)) (by (with_reducible repeat (first | refine blk_drewN ?_ _ | refine blk_drew ?_ | refine blk_alloc ?_ _)); refine blk_far ?_ NB459_492.out _; (with_reducible repeat (first | refine blk_drewN ?_ _ | refine blk_drew ?_ | refine blk_alloc ?_ _)); exact BK459.out)) : gb499 ≠ gb459)); have n20_ := Aside0.mk ((by rw [hg]; exact Nat.ne_of_lt (blk_lt (g := gb466) (o := .cells #[.int .i64 t461, .int .i64 t462, .slice Ao20 t463.length co20] 24 (0, 0)) (by (with_reducible repeat (first | refine blk_drewN ?_ _ | refine blk_drew ?_ | refine blk_alloc ?_ _)); refine blk_far ?_ NB466_492.out _; (with_reducible repeat (first | refine blk_drewN ?_ _ | refine blk_drew ?_ | refine blk_alloc ?_ _)); exact BK466.out)) : gb466 ≠ gb499)); have n21_ := Aside0.mk ((by rw [hg]; exact Nat.ne_of_gt (blk_lt (g := gb466) (o := .cells #[.int .i64 t461, .int .i64 t462, .slice Ao20 t463.length co20] 24 (0, 0)) (by (with_reducible repeat (first | refine blk_drewN ?_ _ | refine blk_drew ?_ | refine blk_alloc ?_ _)); refine blk_far ?_ NB466_492.out _; (with_reducible repeat (first | refine blk_drewN ?_ _ | refine blk_drew ?_ | refine blk_alloc ?_ _)); exact BK466.out)) : gb499 ≠ gb466)); have n22_ := Aside0.mk ((by rw [hg]; exact Nat.ne_of_lt (blk_lt (g := gb472) (o := .cells #[.int .i64 t467, .int .i64 t468, .slice Ao28 t469.length co28] 24 (0, 0)) (by (with_reducible repeat (first | refine blk_drewN ?_ _ | refine blk_drew ?_ | refine blk_alloc ?_ _)); refine blk_far ?_ NB472_492.out _; (with_reducible repeat (first | refine blk_drewN ?_ _ | refine blk_drew ?_ | refine blk_alloc ?_ _)); exact BK472.out)) : gb472 ≠ gb499)); have n23_ := Aside0.mk ((by rw [hg]; exact Nat.ne_of_gt (blk_lt (g := gb472) (o := .cells #[.int .i64 t467, .int .i64 t468, .slice Ao28 t469.length co28] 24 (0, 0)) (by (with_reducible repeat (first | refine blk_drewN ?_ _ | refine blk_drew ?_ | refine blk_alloc ?_ _)); refine blk_far ?_ NB472_492.out _; (with_reducible repeat (first | refine blk_drewN ?_ _ | refine blk_drew ?_ | refine blk_alloc ?_ _)); exact BK472.out)) : gb499 ≠ gb472)); have n24_ := Aside0.mk ((by rw [hg]; exact Nat.ne_of_lt (blk_lt (g := gb478) (o := .cells #[.int .i64 t473, .int .i64 t474, .slice Ao37 t475.length co37] 24 (0, 0)) (by (with_reducible repeat (first | refine blk_drewN ?_ _ | refine blk_drew ?_ | refine blk_alloc ?_ _)); refine blk_far ?_ NB478_492.out _; (with_reducible repeat (first | refine blk_drewN ?_ _ | refine blk_drew ?_ | refine blk_alloc ?_ _)); exact BK478.out)) : gb478 ≠ gb499)); have n25_ := Aside0.mk ((by rw [hg]; exact Nat.ne_of_gt (blk_lt (g := gb478) (o := .cells #[.int .i64 t473, .int .i64 t474, .slice Ao37 t475.length co37] 24 (0, 0)) (by (with_reducible repeat (first | refine blk_drewN ?_ _ | refine blk_drew ?_ | refine blk_alloc ?_ _)); refine blk_far ?_ NB478_492.out _; (with_reducible repeat (first | refine blk_drewN ?_ _ | refine blk_drew ?_ | refine blk_alloc ?_ _)); exact BK478.out)) : gb499 ≠ gb478)); have n26_ := Aside0.mk ((by rw [hg]; exact Nat.ne_of_lt (blk_lt (g := gb482) (o := .cells #[.int .i64 t479, .int .i64 t480] 26 (0, 0)) (by (with_reducible repeat (first | refine blk_drewN ?_ _ | refine blk_drew ?_ | refine blk_alloc ?_ _)); refine blk_far ?_ NB482_492.out _; (with_reducible repeat (first | refine blk_drewN ?_ _ | refine blk_drew ?_ | refine blk_alloc ?_ _)); exact BK482.out)) : gb482 ≠ gb499)); have n27_ := Aside0.mk ((by rw [hg]; exact Nat.ne_of_gt (blk_lt (g := gb482) (o := .cells #[.int .i64 t479, .int .i64 t480] 26 (0, 0)) (by (with_reducible repeat (first | refine blk_drewN ?_ _ | refine blk_drew ?_ | refine blk_alloc ?_ _)); refine blk_far ?_ NB482_492.out _; (with_reducible repeat (first | refine blk_drewN ?_ _ | refine blk_drew ?_ | refine blk_alloc ?_ _)); exact BK482.out)) : gb499 ≠ gb482)); have n28_ := Aside0.mk ((by rw [hg]; exact Nat.ne_of_lt (blk_lt (g := gb486) (o := .cells #[.int .i64 t483, .int .i64 t484] 26 (0, 0)) (by (with_reducible repeat (first | refine blk_drewN ?_ _ | refine blk_drew ?_ | refine blk_alloc ?_ _)); refine blk_far ?_ NB486_492.out _; (with_reducible repeat (first | refine blk_drewN ?_ _ | refine blk_drew ?_ | refine blk_alloc ?_ _)); exact BK486.out)) : gb486 ≠ gb499)); have n29_ := Aside0.mk ((by rw [hg]; exact Nat.ne_of_gt (blk_lt (g := gb486) (o := .cells #[.int .i64 t483, .int .i64 t484] 26 (0, 0)) (by (with_reducible repeat (first | refine blk_drewN ?_ _ | refine blk_drew ?_ | refine blk_alloc ?_ _)); refine blk_far ?_ NB486_492.out _; (with_reducible repeat (first | refine blk_drewN ?_ _ | refine blk_drew ?_ | refine blk_alloc ?_ _)); exact BK486.out)) : gb499 ≠ gb486)); have n30_ := Aside0.mk ((by rw [hg]; exact Nat.ne_of_lt (blk_lt (g := gb492) (o := .cells #[.int .i64 t467, .int .i64 t468, .slice Ao264 y496.length co264] 24 (0, 0)) (by (with_reducible repeat (first | refine blk_drewN ?_ _ | refine blk_drew ?_ | refine blk_alloc ?_ _)); refine blk_put (cs := #[.int .i64 t467, .int .i64 t468, .slice Ao28 t469.length co28]) ?_ 2 _ rfl; (with_reducible repeat (first | refine blk_drewN ?_ _ | refine blk_drew ?_ | refine blk_alloc ?_ _)); exact BK492.out)) : gb492 ≠ gb499)); have n31_ := Aside0.mk ((by rw [hg]; exact Nat.ne_of_gt (blk_lt (g := gb492) (o := .cells #[.int .i64 t467, .int .i64 t468, .slice Ao264 y496.length co264] 24 (0, 0)) (by (with_reducible repeat (first | refine blk_drewN ?_ _ | refine blk_drew ?_ | refine blk_alloc ?_ _)); refine blk_put (cs := #[.int .i64 t467, .int .i64 t468, .slice Ao28 t469.length co28]) ?_ 2 _ rfl; (with_reducible repeat (first | refine blk_drewN ?_ _ | refine blk_drew ?_ | refine blk_alloc ?_ _)); exact BK492.out)) : gb499 ≠ gb492)); clear HO_467002; clear HO_473002; clear HO_479002; clear HO498; clear BK458; clear BK459; clear BK466; clear BK472; clear BK478; clear BK482; clear BK486; clear BK492; clear HB; have HO_467002 := n0_; have HO_473002 := n1_; have HO_479002 := n2_; have HO498 := n3_; have BK458 := n4_; have BK459 := n5_; have BK466 := n6_; have BK472 := n7_; have BK478 := n8_; have BK482 := n9_; have BK486 := n10_; have BK492 := n11_; have HB := n12_; have BK499 := n13_; have GW499 := n14_; have GE499 := n15_; have NB458_499 := n16_; have NB499_458 := n17_; have NB459_499 := n18_; have NB499_459 := n19_; have NB466_499 := n20_; have NB499_466 := n21_; have NB472_499 := n22_; have NB499_472 := n23_; have NB478_499 := n24_; have NB499_478 := n25_; have NB482_499 := n26_; have NB499_482 := n27_; have NB486_499 := n28_; have NB499_486 := n29_; have NB492_499 := n30_; have NB499_492 := n31_; clear n0_ n1_ n2_ n3_ n4_ n5_ n6_ n7_ n8_ n9_ n10_ n11_ n12_ n13_ n14_ n15_ n16_ n17_ n18_ n19_ n20_ n21_ n22_ n23_ n24_ n25_ n26_ n27_ n28_ n29_ n30_ n31_; clear hb hbox hg; have hnb268 := NB499_458.out; have hnc268 := NB458_499.out; have hnb269 := NB499_459.out; have hnc269 := NB459_499.out; have hnb270 := NB499_466.out; have hnc270 := NB466_499.out; have hnb271 := NB499_472.out; have hnc271 := NB472_499.out; have hnb272 := NB499_478.out; have hnc272 := NB478_499.out; have hnb273 := NB499_482.out; have hnc273 := NB482_499.out; have hnb274 := NB499_486.out; have hnc274 := NB486_499.out; have hnb275 := NB499_492.out; have hnc275 := NB492_499.out; have hcz276_0 : w267.cell? ⟨gb499, 0, none⟩ = some (.int .i64 0) := (blk_cell BK499.out 0).trans rfl; have hcz276_1 : w267.cell? ⟨gb499, 1, none⟩ = some (.int .i64 0) := (blk_cell BK499.out 1).trans rfl; have hcz276_2 : w267.cell? ⟨gb499, 2, none⟩ = some (.slice none 0 0) := (blk_cell BK499.out 2).trans rfl; have hfz276_0 := blk_frozen BK499.out 0; have hfz276_1 := blk_frozen BK499.out 1; have hfz276_2 := blk_frozen BK499.out 2; have hcz277_0 : w267.cell? ⟨gb472, 0, none⟩ = some (.int .i64 t467) := (blk_cell BK472.out 0).trans rfl; have hcz277_1 : w267.cell? ⟨gb472, 1, none⟩ = some (.int .i64 t468) := (blk_cell BK472.out 1).trans rfl; have hcz277_2 : w267.cell? ⟨gb472, 2, none⟩ = some (.slice Ao28 t469.length co28) := (blk_cell BK472.out 2).trans rfl; have hfz277_0 := blk_frozen BK472.out 0; have hfz277_1 := blk_frozen BK472.out 1; have hfz277_2 := blk_frozen BK472.out 2) | ((with_reducible refine gate_builtin (b := .append) (xs := #[.const (.slice none 0 0), .tmp 67]) rfl ?_); at_builtin; refine Kd.R_append_rows (Kd.int .i64) (w0 := w) w.heap.size rfl (.const (.slice none 0 0)) (.tmp 67) 22 3 (.int .i64 0) 8 rfl Try.underlying22 info3 rfl (by decide) (by omega) (.slice none 0 0) ([] : List Int) t469 _ _ _ (fun k_ => some k_ ≠ (.slice Ao20 t463.length co20 : Value).ownBlock ∧ some k_ ≠ (.slice Ao28 t469.length co28 : Value).ownBlock ∧ some k_ ≠ (.slice Ao37 t475.length co37 : Value).ownBlock ∧ some k_ ≠ (.slice Ao264 y496.length co264 : Value).ownBlock) (fun _ => False) rfl rfl ?aO ?aR (fun _ _ h => h) (fun _ h => h.elim) ?aF ?aB ?aS ?aL ?_; (case aR => refine (Kd.R_reads' (e := 3) (base := w.heap.size) (ok := fun k_ => ((some k_ ≠ (.slice Ao20 t463.length co20 : Value).ownBlock ∧ some k_ ≠ (.slice Ao37 t475.length co37 : Value).ownBlock) ∧ some k_ ≠ (.slice Ao264 y496.length co264 : Value).ownBlock)) (n := t469.length) (c := co28) ?_).2.2; exact (qR ((Kd.R_mono (Kd.R_far (p := ⟨gb499, 2, none⟩) (Kd.R_far (p := ⟨gb499, 1, none⟩) (Kd.R_far (p := ⟨gb499, 0, none⟩) (Kd.R_types HO_473002.out BK499.out (by decide)) (fun _ hk => hk.2) (.int .i64 t467)) (fun _ hk => hk.2) (.int .i64 t468)) (fun _ hk => hk.2) (.slice Ao28 t469.length co28)) (fun _ h_ => h_.1))))); (case aB => exact (by repeat (first | (with_reducible first | exact HB.out | apply below_alloc | apply pw_below_drewN | apply below_drew1 | refine below_set ?_ (Aside0.out (by assumption))) | exact HB.out))); (case aF => exact (fun k_ hk => ⟨Kd.fresh' (Kd.R_lt (qR ((Kd.R_mono (Kd.R_far (p := ⟨gb499, 2, none⟩) (Kd.R_far (p := ⟨gb499, 1, none⟩) (Kd.R_far (p := ⟨gb499, 0, none⟩) (Kd.R_types HO_467002.out BK499.out (by decide)) (fun _ hk => hk.2) (.int .i64 t467)) (fun _ hk => hk.2) (.int .i64 t468)) (fun _ hk => hk.2) (.slice Ao28 t469.length co28)) (fun _ h_ => h_.1))))) k_ hk, Kd.fresh' (Kd.R_lt (qR ((Kd.R_mono (Kd.R_far (p := ⟨gb499, 2, none⟩) (Kd.R_far (p := ⟨gb499, 1, none⟩) (Kd.R_far (p := ⟨gb499, 0, none⟩) (Kd.R_types HO_473002.out BK499.out (by decide)) (fun _ hk => hk.2) (.int .i64 t467)) (fun _ hk => hk.2) (.int .i64 t468)) (fun _ hk => hk.2) (.slice Ao28 t469.length co28)) (fun _ h_ => h_.1))))) k_ hk, Kd.fresh' (Kd.R_lt (qR ((Kd.R_mono (Kd.R_far (p := ⟨gb499, 2, none⟩) (Kd.R_far (p := ⟨gb499, 1, none⟩) (Kd.R_far (p := ⟨gb499, 0, none⟩) (Kd.R_types HO_479002.out BK499.out (by decide)) (fun _ hk => hk.2) (.int .i64 t467)) (fun _ hk => hk.2) (.int .i64 t468)) (fun _ hk => hk.2) (.slice Ao28 t469.length co28)) (fun _ h_ => h_.1))))) k_ hk, Kd.fresh' (Kd.R_lt (qR ((Kd.R_mono (Kd.R_far (p := ⟨gb499, 2, none⟩) (Kd.R_far (p := ⟨gb499, 1, none⟩) (Kd.R_far (p := ⟨gb499, 0, none⟩) (Kd.R_types HO498.out BK499.out (by decide)) (fun _ hk => hk.2) (.int .i64 t467)) (fun _ hk => hk.2) (.int .i64 t468)) (fun _ hk => hk.2) (.slice Ao28 t469.length co28)) (fun _ h_ => h_.1))))) k_ hk⟩)); (case aO => exact ((Kd.R_nil _ _ _ _ (fun k_ => some k_ ≠ (.slice Ao20 t463.length co20 : Value).ownBlock ∧ some k_ ≠ (.slice Ao28 t469.length co28 : Value).ownBlock ∧ some k_ ≠ (.slice Ao37 t475.length co37 : Value).ownBlock ∧ some k_ ≠ (.slice Ao264 y496.length co264 : Value).ownBlock)))); (case aS => exact (below_size (by repeat (first | (with_reducible first | exact HB.out | apply below_alloc | apply pw_below_drewN | apply below_drew1 | refine below_set ?_ (Aside0.out (by assumption))) | exact HB.out)))); (case aL => have := LMc85.out; omega); intro v501 w278 ho hb hg hat; rw [← Ny500.out] at ho; have n0_ := Aside0.mk (Kd.R_after (Kd.R_apart_nil (qR ((Kd.R_mono (Kd.R_far (p := ⟨gb499, 2, none⟩) (Kd.R_far (p := ⟨gb499, 1, none⟩) (Kd.R_far (p := ⟨gb499, 0, none⟩) (Kd.R_types HO_467002.out BK499.out (by decide)) (fun _ hk => hk.2) (.int .i64 t467)) (fun _ hk => hk.2) (.int .i64 t468)) (fun _ hk => hk.2) (.slice Ao28 t469.length co28)) (fun _ h_ => h_.1))))) hg hat); have n1_ := Aside0.mk (Kd.R_after (Kd.R_apart_nil (qR ((Kd.R_mono (Kd.R_far (p := ⟨gb499, 2, none⟩) (Kd.R_far (p := ⟨gb499, 1, none⟩) (Kd.R_far (p := ⟨gb499, 0, none⟩) (Kd.R_types HO_473002.out BK499.out (by decide)) (fun _ hk => hk.2) (.int .i64 t467)) (fun _ hk => hk.2) (.int .i64 t468)) (fun _ hk => hk.2) (.slice Ao28 t469.length co28)) (fun _ h_ => h_.1))))) hg hat); have n2_ := Aside0.mk (Kd.R_after (Kd.R_apart_nil (qR ((Kd.R_mono (Kd.R_far (p := ⟨gb499, 2, none⟩) (Kd.R_far (p := ⟨gb499, 1, none⟩) (Kd.R_far (p := ⟨gb499, 0, none⟩) (Kd.R_types HO_479002.out BK499.out (by decide)) (fun _ hk => hk.2) (.int .i64 t467)) (fun _ hk => hk.2) (.int .i64 t468)) (fun _ hk => hk.2) (.slice Ao28 t469.length co28)) (fun _ h_ => h_.1))))) hg hat); have n3_ := Aside0.mk (blk_grown (g := gb458) (o := .cells #[.int .i64 a0_0, .int .i64 a0_1, .slice A0_2 l0_2.length c0_2] 24 (0, 0)) (by (with_reducible repeat (first | refine blk_drewN ?_ _ | refine blk_drew ?_ | refine blk_alloc ?_ _)); refine blk_far ?_ NB458_499.out _; (with_reducible repeat (first | refine blk_drewN ?_ _ | refine blk_drew ?_ | refine blk_alloc ?_ _)); refine blk_far ?_ NB458_499.out _; (with_reducible repeat (first | refine blk_drewN ?_ _ | refine blk_drew ?_ | refine blk_alloc ?_ _)); refine blk_far ?_ NB458_499.out _; (with_reducible repeat (first | refine blk_drewN ?_ _ | refine blk_drew ?_ | refine blk_alloc ?_ _)); exact BK458.out) hg (by simp [Value.ownBlock])); have n4_ := Aside0.mk (blk_grown (g := gb459) (o := .cells #[.int .i64 a1_0, .int .i64 a1_1, .slice A1_2 l1_2.length c1_2] 24 (0, 0)) (by (with_reducible repeat (first | refine blk_drewN ?_ _ | refine blk_drew ?_ | refine blk_alloc ?_ _)); refine blk_far ?_ NB459_499.out _; (with_reducible repeat (first | refine blk_drewN ?_ _ | refine blk_drew ?_ | refine blk_alloc ?_ _)); refine blk_far ?_ NB459_499.out _; (with_reducible repeat (first | refine blk_drewN ?_ _ | refine blk_drew ?_ | refine blk_alloc ?_ _)); refine blk_far ?_ NB459_499.out _; (with_reducible repeat (first | refine blk_drewN ?_ _ | refine blk_drew ?_ | refine blk_alloc ?_ _)); exact BK459.out) hg (by simp [Value.ownBlock])); have n5_ := Aside0.mk (blk_grown (g := gb466) (o := .cells #[.int .i64 t461, .int .i64 t462, .slice Ao20 t463.length co20] 24 (0, 0)) (by (with_reducible repeat (first | refine blk_drewN ?_ _ | refine blk_drew ?_ | refine blk_alloc ?_ _)); refine blk_far ?_ NB466_499.out _; (with_reducible repeat (first | refine blk_drewN ?_ _ | refine blk_drew ?_ | refine blk_alloc ?_ _)); refine blk_far ?_ NB466_499.out _; (with_reducible repeat (first | refine blk_drewN ?_ _ | refine blk_drew ?_ | refine blk_alloc ?_ _)); refine blk_far ?_ NB466_499.out _; (with_reducible repeat (first | refine blk_drewN ?_ _ | refine blk_drew ?_ | refine blk_alloc ?_ _)); exact BK466.out) hg (by simp [Value.ownBlock])); have n6_ := Aside0.mk (blk_grown (g := gb472) (o := .cells #[.int .i64 t467, .int .i64 t468, .slice Ao28 t469.length co28] 24 (0, 0)) (by (with_reducible repeat (first | refine blk_drewN ?_ _ | refine blk_drew ?_ | refine blk_alloc ?_ _)); refine blk_far ?_ NB472_499.out _; (with_reducible repeat (first | refine blk_drewN ?_ _ | refine blk_drew ?_ | refine blk_alloc ?_ _)); refine blk_far ?_ NB472_499.out _; (with_reducible repeat (first | refine blk_drewN ?_ _ | refine blk_drew ?_ | refine blk_alloc ?_ _)); refine blk_far ?_ NB472_499.out _; (with_reducible repeat (first | refine blk_drewN ?_ _ | refine blk_drew ?_ | refine blk_alloc ?_ _)); exact BK472.out) hg (by simp [Value.ownBlock])); have n7_ := Aside0.mk (blk_grown (g := gb478) (o := .cells #[.int .i64 t473, .int .i64 t474, .slice Ao37 t475.length co37] 24 (0, 0)) (by (with_reducible repeat (first | refine blk_drewN ?_ _ | refine blk_drew ?_ | refine blk_alloc ?_ _)); refine blk_far ?_ NB478_499.out _; (with_reducible repeat (first | refine blk_drewN ?_ _ | refine blk_drew ?_ | refine blk_alloc ?_ _)); refine blk_far ?_ NB478_499.out _; (with_reducible repeat (first | refine blk_drewN ?_ _ | refine blk_drew ?_ | refine blk_alloc ?_ _)); refine blk_far ?_ NB478_499.out _; (with_reducible repeat (first | refine blk_drewN ?_ _ | refine blk_drew ?_ | refine blk_alloc ?_ _)); exact BK478.out) hg (by simp [Value.ownBlock])); have n8_ := Aside0.mk (blk_grown (g := gb482) (o := .cells #[.int .i64 t479, .int .i64 t480] 26 (0, 0)) (by (with_reducible repeat (first | refine blk_drewN ?_ _ | refine blk_drew ?_ | refine blk_alloc ?_ _)); refine blk_far ?_ NB482_499.out _; (with_reducible repeat (first | refine blk_drewN ?_ _ | refine blk_drew ?_ | refine blk_alloc ?_ _)); refine blk_far ?_ NB482_499.out _; (with_reducible repeat (first | refine blk_drewN ?_ _ | refine blk_drew ?_ | refine blk_alloc ?_ _)); refine blk_far ?_ NB482_499.out _; (with_reducible repeat (first | refine blk_drewN ?_ _ | refine blk_drew ?_ | refine blk_alloc ?_ _)); exact BK482.out) hg (by simp [Value.ownBlock])); have n9_ := Aside0.mk (blk_grown (g := gb486) (o := .cells #[.int .i64 t483, .int .i64 t484] 26 (0, 0)) (by (with_reducible repeat (first | refine blk_drewN ?_ _ | refine blk_drew ?_ | refine blk_alloc ?_ _)); refine blk_far ?_ NB486_499.out _; (with_reducible repeat (first | refine blk_drewN ?_ _ | refine blk_drew ?_ | refine blk_alloc ?_ _)); refine blk_far ?_ NB486_499.out _; (with_reducible repeat (first | refine blk_drewN ?_ _ | refine blk_drew ?_ | refine blk_alloc ?_ _)); refine blk_far ?_ NB486_499.out _; (with_reducible repeat (first | refine blk_drewN ?_ _ | refine blk_drew ?_ | refine blk_alloc ?_ _)); exact BK486.out) hg (by simp [Value.ownBlock])); have n10_ := Aside0.mk (blk_grown (g := gb492) (o := .cells #[.int .i64 t467, .int .i64 t468, .slice Ao264 y496.length co264] 24 (0, 0)) (by (with_reducible repeat (first | refine blk_drewN ?_ _ | refine blk_drew ?_ | refine blk_alloc ?_ _)); refine blk_far ?_ NB492_499.out _; (with_reducible repeat (first | refine blk_drewN ?_ _ | refine blk_drew ?_ | refine blk_alloc ?_ _)); refine blk_far ?_ NB492_499.out _; (with_reducible repeat (first | refine blk_drewN ?_ _ | refine blk_drew ?_ | refine blk_alloc ?_ _)); refine blk_far ?_ NB492_499.out _; (with_reducible repeat (first | refine blk_drewN ?_ _ | refine blk_drew ?_ | refine blk_alloc ?_ _)); exact BK492.out) hg (by simp [Value.ownBlock])); have n11_ := Aside0.mk (Kd.R_after (Kd.R_apart_nil (qR ((Kd.R_mono (Kd.R_far (p := ⟨gb499, 2, none⟩) (Kd.R_far (p := ⟨gb499, 1, none⟩) (Kd.R_far (p := ⟨gb499, 0, none⟩) (Kd.R_types HO498.out BK499.out (by decide)) (fun _ hk => hk.2) (.int .i64 t467)) (fun _ hk => hk.2) (.int .i64 t468)) (fun _ hk => hk.2) (.slice Ao28 t469.length co28)) (fun _ h_ => h_.1))))) hg hat); have n12_ := Aside0.mk (blk_grown (g := gb499) (o := .cells #[.int .i64 t467, .int .i64 t468, .slice Ao28 t469.length co28] 24 (0, 0)) (by (with_reducible repeat (first | refine blk_drewN ?_ _ | refine blk_drew ?_ | refine blk_alloc ?_ _)); refine blk_put (cs := #[.int .i64 t467, .int .i64 t468, .slice none 0 0]) ?_ 2 _ rfl; (with_reducible repeat (first | refine blk_drewN ?_ _ | refine blk_drew ?_ | refine blk_alloc ?_ _)); refine blk_put (cs := #[.int .i64 t467, .int .i64 0, .slice none 0 0]) ?_ 1 _ rfl; (with_reducible repeat (first | refine blk_drewN ?_ _ | refine blk_drew ?_ | refine blk_alloc ?_ _)); refine blk_put (cs := #[.int .i64 0, .int .i64 0, .slice none 0 0]) ?_ 0 _ rfl; (with_reducible repeat (first | refine blk_drewN ?_ _ | refine blk_drew ?_ | refine blk_alloc ?_ _)); exact BK499.out) hg (by simp [Value.ownBlock])); have n13_ := Aside0.mk (hb); have n14_ := Aside0.mk (ho); clear HO_467002; clear HO_473002; clear HO_479002; clear BK458; clear BK459; clear BK466; clear BK472; clear BK478; clear BK482; clear BK486; clear BK492; clear HO498; clear BK499; clear HB; have HO_467002 := n0_; have HO_473002 := n1_; have HO_479002 := n2_; have BK458 := n3_; have BK459 := n4_; have BK466 := n5_; have BK472 := n6_; have BK478 := n7_; have BK482 := n8_; have BK486 := n9_; have BK492 := n10_; have HO498 := n11_; have BK499 := n12_; have HB := n13_; have HO502 := n14_; clear n0_ n1_ n2_ n3_ n4_ n5_ n6_ n7_ n8_ n9_ n10_ n11_ n12_ n13_ n14_; clear ho hb hg hat) | ((with_reducible refine gate_builtin (b := .append) (xs := #[.tmp 68, .tmp 69]) rfl ?_); at_builtin; refine Kd.R_append (Kd.int .i64) (w0 := w) w.heap.size rfl (.tmp 68) (.tmp 69) 22 3 (.int .i64 0) 8 rfl Try.underlying22 info3 rfl (by decide) (by omega) v501 y500 0 [.int .i64 0] (fun k_ => some k_ ≠ (.slice Ao20 t463.length co20 : Value).ownBlock ∧ some k_ ≠ (.slice Ao28 t469.length co28 : Value).ownBlock ∧ some k_ ≠ (.slice Ao37 t475.length co37 : Value).ownBlock ∧ some k_ ≠ (.slice Ao264 y496.length co264 : Value).ownBlock) (fun _ => False) rfl rfl ?aP (fun _ hk => hk.elim) ?aF ?aO ?aB ?aS ?aL ?_; (case aP => exact rfl); (case aB => exact (by repeat (first | (with_reducible first | exact HB.out | apply below_alloc | apply pw_below_drewN | apply below_drew1 | refine below_set ?_ (Aside0.out (by assumption))) | exact HB.out))); (case aF => exact (fun k_ hk => ⟨Kd.fresh' (Kd.R_lt (qR HO_467002.out)) k_ hk, Kd.fresh' (Kd.R_lt (qR HO_473002.out)) k_ hk, Kd.fresh' (Kd.R_lt (qR HO_479002.out)) k_ hk, Kd.fresh' (Kd.R_lt (qR HO498.out)) k_ hk⟩)); (case aO => exact (qR HO502.out)); (case aS => exact (below_size (by repeat (first | (with_reducible first | exact HB.out | apply below_alloc | apply pw_below_drewN | apply below_drew1 | refine below_set ?_ (Aside0.out (by assumption))) | exact HB.out)))); (case aL => have := LMc87.out; omega); intro v504 w279 ho hb hg hat; rw [← Ny503.out] at ho; have n0_ := Aside0.mk (Kd.R_after (ok := (fun k_ => some k_ ≠ (.slice Ao28 t469.length co28 : Value).ownBlock ∧ some k_ ≠ (.slice Ao37 t475.length co37 : Value).ownBlock ∧ some k_ ≠ (.slice Ao264 y496.length co264 : Value).ownBlock)) (qR (Kd.R_mono HO_467002.out (fun _ hk => ⟨⟨hk.1.1.1, ⟨hk.1.1.2, hk.1.2⟩⟩, hk.2⟩))) hg hat); have n1_ := Aside0.mk (Kd.R_after (ok := (fun k_ => some k_ ≠ (.slice Ao20 t463.length co20 : Value).ownBlock ∧ some k_ ≠ (.slice Ao37 t475.length co37 : Value).ownBlock ∧ some k_ ≠ (.slice Ao264 y496.length co264 : Value).ownBlock)) (qR (Kd.R_mono HO_473002.out (fun _ hk => ⟨⟨hk.1.1.1, ⟨hk.1.1.2, hk.1.2⟩⟩, hk.2⟩))) hg hat); have n2_ := Aside0.mk (Kd.R_after (ok := (fun k_ => some k_ ≠ (.slice Ao20 t463.length co20 : Value).ownBlock ∧ some k_ ≠ (.slice Ao28 t469.length co28 : Value).ownBlock ∧ some k_ ≠ (.slice Ao264 y496.length co264 : Value).ownBlock)) (qR (Kd.R_mono HO_479002.out (fun _ hk => ⟨⟨hk.1.1.1, ⟨hk.1.1.2, hk.1.2⟩⟩, hk.2⟩))) hg hat); have n3_ := Aside0.mk (blk_grown (qB BK458.out) hg (Kd.R_ne HO502.out BK458.out (by decide))); have n4_ := Aside0.mk (blk_grown (qB BK459.out) hg (Kd.R_ne HO502.out BK459.out (by decide))); have n5_ := Aside0.mk (blk_grown (qB BK466.out) hg (Kd.R_ne HO502.out BK466.out (by decide))); have n6_ := Aside0.mk (blk_grown (qB BK472.out) hg (Kd.R_ne HO502.out BK472.out (by decide))); have n7_ := Aside0.mk (blk_grown (qB BK478.out) hg (Kd.R_ne HO502.out BK478.out (by decide))); have n8_ := Aside0.mk (blk_grown (qB BK482.out) hg (Kd.R_ne HO502.out BK482.out (by decide))); have n9_ := Aside0.mk (blk_grown (qB BK486.out) hg (Kd.R_ne HO502.out BK486.out (by decide))); have n10_ := Aside0.mk (blk_grown (qB BK492.out) hg (Kd.R_ne HO502.out BK492.out (by decide))); have n11_ := Aside0.mk (Kd.R_after (ok := (fun k_ => some k_ ≠ (.slice Ao20 t463.length co20 : Value).ownBlock ∧ some k_ ≠ (.slice Ao28 t469.length co28 : Value).ownBlock ∧ some k_ ≠ (.slice Ao37 t475.length co37 : Value).ownBlock)) (qR HO498.out) hg hat); have n12_ := Aside0.mk (blk_grown (qB BK499.out) hg (Kd.R_ne HO502.out BK499.out (by decide))); have n13_ := Aside0.mk (hb); have n14_ := Aside0.mk (ho); clear HO_467002; clear HO_473002; clear HO_479002; clear BK458; clear BK459; clear BK466; clear BK472; clear BK478; clear BK482; clear BK486; clear BK492; clear HO498; clear BK499; clear HB; clear HO502; have HO_467002 := n0_; have HO_473002 := n1_; have HO_479002 := n2_; have BK458 := n3_; have BK459 := n4_; have BK466 := n5_; have BK472 := n6_; have BK478 := n7_; have BK482 := n8_; have BK486 := n9_; have BK492 := n10_; have HO498 := n11_; have BK499 := n12_; have HB := n13_; have HO505 := n14_; clear n0_ n1_ n2_ n3_ n4_ n5_ n6_ n7_ n8_ n9_ n10_ n11_ n12_ n13_ n14_; clear ho hb hg hat; obtain ⟨Ao280, co280, eo280⟩ := Kd.R_slice HO505.out; subst eo280; have hcz281_0 : w279.cell? ⟨gb499, 0, none⟩ = some (.int .i64 t467) := (blk_cell BK499.out 0).trans rfl; have hcz281_1 : w279.cell? ⟨gb499, 1, none⟩ = some (.int .i64 t468) := (blk_cell BK499.out 1).trans rfl; have hcz281_2 : w279.cell? ⟨gb499, 2, none⟩ = some (.slice Ao28 t469.length co28) := (blk_cell BK499.out 2).trans rfl; have hfz281_0 := blk_frozen BK499.out 0; have hfz281_1 := blk_frozen BK499.out 1; have hfz281_2 := blk_frozen BK499.out 2; have hcz282_0 : w279.cell? ⟨gb492, 0, none⟩ = some (.int .i64 t467) := (blk_cell BK492.out 0).trans rfl; have hcz282_1 : w279.cell? ⟨gb492, 1, none⟩ = some (.int .i64 t468) := (blk_cell BK492.out 1).trans rfl; have hcz282_2 : w279.cell? ⟨gb492, 2, none⟩ = some (.slice Ao264 y496.length co264) := (blk_cell BK492.out 2).trans rfl; have hfz282_0 := blk_frozen BK492.out 0; have hfz282_1 := blk_frozen BK492.out 1; have hfz282_2 := blk_frozen BK492.out 2) | ((with_reducible refine gate_callee (f := 12) rfl ?_); refine goesL_ (some 74) rfl rfl Try.func12 (by kernel_rfl) rfl #[.agg #[.int .i64 t467, .int .i64 t468, .slice Ao264 y496.length co264]] rfl (by (try simp only [List.map_toArray, List.map_cons, List.map_nil]); first | done | rfl | (simp only [List.length_drop, List.length_take]; rfl)) ?_; (with_reducible refine (meter_Length.calls kj8 t467 t468 _ _ y496 t506 t507 t508 _ ?side1 ?side2 A88.out).mono ?_); (case side1 => refine (Kd.R_reads' (e := 3) (base := w.heap.size) (ok := fun k_ => ((some k_ ≠ (.slice Ao20 t463.length co20 : Value).ownBlock ∧ (some k_ ≠ (.slice Ao28 t469.length co28 : Value).ownBlock ∧ some k_ ≠ (.slice Ao37 t475.length co37 : Value).ownBlock)) ∧ some k_ ≠ (.slice Ao280 y503.length co280 : Value).ownBlock)) (n := y496.length) (c := co264) ?_).2.2; exact (qR ((Kd.R_mono (Kd.R_far (p := ⟨gb499, 2, none⟩) (Kd.R_types HO498.out BK499.out (by decide)) (fun _ hk => hk.2) (.slice Ao280 y503.length co280)) (fun _ h_ => h_.1))))); (case side2 => exact (Kd.R_reads' HO498.out).2.1); rintro e w283 ⟨rfl, hb⟩; refine ⟨_, rfl, ?_⟩; have n0_ := Aside0.mk (Kd.R_below (qR ((Kd.R_mono (Kd.R_far (p := ⟨gb499, 2, none⟩) (Kd.R_types HO_467002.out BK499.out (by decide)) (fun _ hk => hk.2) (.slice Ao280 y503.length co280)) (fun _ h_ => h_.1)))) hb); have n1_ := Aside0.mk (Kd.R_below (qR ((Kd.R_mono (Kd.R_far (p := ⟨gb499, 2, none⟩) (Kd.R_types HO_473002.out BK499.out (by decide)) (fun _ hk => hk.2) (.slice Ao280 y503.length co280)) (fun _ h_ => h_.1)))) hb); have n2_ := Aside0.mk (Kd.R_below (qR ((Kd.R_mono (Kd.R_far (p := ⟨gb499, 2, none⟩) (Kd.R_types HO_479002.out BK499.out (by decide)) (fun _ hk => hk.2) (.slice Ao280 y503.length co280)) (fun _ h_ => h_.1)))) hb); have n3_ := Aside0.mk (Kd.R_below (qR ((Kd.R_mono (Kd.R_far (p := ⟨gb499, 2, none⟩) (Kd.R_types HO498.out BK499.out (by decide)) (fun _ hk => hk.2) (.slice Ao280 y503.length co280)) (fun _ h_ => h_.1)))) hb); have n4_ := Aside0.mk (Kd.R_below (qR ((Kd.R_mono (Kd.R_far (p := ⟨gb499, 2, none⟩) (Kd.R_types HO505.out BK499.out (by decide)) (fun _ hk => hk.2) (.slice Ao280 y503.length co280)) (fun _ h_ => h_.1)))) hb); have n5_ := Aside0.mk (blk_below (g := gb458) (o := .cells #[.int .i64 a0_0, .int .i64 a0_1, .slice A0_2 l0_2.length c0_2] 24 (0, 0)) (by (with_reducible repeat (first | refine blk_drewN ?_ _ | refine blk_drew ?_ | refine blk_alloc ?_ _)); refine blk_far ?_ NB458_499.out _; (with_reducible repeat (first | refine blk_drewN ?_ _ | refine blk_drew ?_ | refine blk_alloc ?_ _)); exact BK458.out) hb); have n6_ := Aside0.mk (blk_below (g := gb459) (o := .cells #[.int .i64 a1_0, .int .i64 a1_1, .slice A1_2 l1_2.length c1_2] 24 (0, 0)) (by (with_reducible repeat (first | refine blk_drewN ?_ _ | refine blk_drew ?_ | refine blk_alloc ?_ _)); refine blk_far ?_ NB459_499.out _; (with_reducible repeat (first | refine blk_drewN ?_ _ | refine blk_drew ?_ | refine blk_alloc ?_ _)); exact BK459.out) hb); have n7_ := Aside0.mk (blk_below (g := gb466) (o := .cells #[.int .i64 t461, .int .i64 t462, .slice Ao20 t463.length co20] 24 (0, 0)) (by (with_reducible repeat (first | refine blk_drewN ?_ _ | refine blk_drew ?_ | refine blk_alloc ?_ _)); refine blk_far ?_ NB466_499.out _; (with_reducible repeat (first | refine blk_drewN ?_ _ | refine blk_drew ?_ | refine blk_alloc ?_ _)); exact BK466.out) hb); have n8_ := Aside0.mk (blk_below (g := gb472) (o := .cells #[.int .i64 t467, .int .i64 t468, .slice Ao28 t469.length co28] 24 (0, 0)) (by (with_reducible repeat (first | refine blk_drewN ?_ _ | refine blk_drew ?_ | refine blk_alloc ?_ _)); refine blk_far ?_ NB472_499.out _; (with_reducible repeat (first | refine blk_drewN ?_ _ | refine blk_drew ?_ | refine blk_alloc ?_ _)); exact BK472.out) hb); have n9_ := Aside0.mk (blk_below (g := gb478) (o := .cells #[.int .i64 t473, .int .i64 t474, .slice Ao37 t475.length co37] 24 (0, 0)) (by (with_reducible repeat (first | refine blk_drewN ?_ _ | refine blk_drew ?_ | refine blk_alloc ?_ _)); refine blk_far ?_ NB478_499.out _; (with_reducible repeat (first | refine blk_drewN ?_ _ | refine blk_drew ?_ | refine blk_alloc ?_ _)); exact BK478.out) hb); have n10_ := Aside0.mk (blk_below (g := gb482) (o := .cells #[.int .i64 t479, .int .i64 t480] 26 (0, 0)) (by (with_reducible repeat (first | refine blk_drewN ?_ _ | refine blk_drew ?_ | refine blk_alloc ?_ _)); refine blk_far ?_ NB482_499.out _; (with_reducible repeat (first | refine blk_drewN ?_ _ | refine blk_drew ?_ | refine blk_alloc ?_ _)); exact BK482.out) hb); have n11_ := Aside0.mk (blk_below (g := gb486) (o := .cells #[.int .i64 t483, .int .i64 t484] 26 (0, 0)) (by (with_reducible repeat (first | refine blk_drewN ?_ _ | refine blk_drew ?_ | refine blk_alloc ?_ _)); refine blk_far ?_ NB486_499.out _; (with_reducible repeat (first | refine blk_drewN ?_ _ | refine blk_drew ?_ | refine blk_alloc ?_ _)); exact BK486.out) hb); have n12_ := Aside0.mk (blk_below (g := gb492) (o := .cells #[.int .i64 t467, .int .i64 t468, .slice Ao264 y496.length co264] 24 (0, 0)) (by (with_reducible repeat (first | refine blk_drewN ?_ _ | refine blk_drew ?_ | refine blk_alloc ?_ _)); refine blk_far ?_ NB492_499.out _; (with_reducible repeat (first | refine blk_drewN ?_ _ | refine blk_drew ?_ | refine blk_alloc ?_ _)); exact BK492.out) hb); have n13_ := Aside0.mk (blk_below (g := gb499) (o := .cells #[.int .i64 t467, .int .i64 t468, .slice Ao280 y503.length co280] 24 (0, 0)) (by (with_reducible repeat (first | refine blk_drewN ?_ _ | refine blk_drew ?_ | refine blk_alloc ?_ _)); refine blk_put (cs := #[.int .i64 t467, .int .i64 t468, .slice Ao28 t469.length co28]) ?_ 2 _ rfl; (with_reducible repeat (first | refine blk_drewN ?_ _ | refine blk_drew ?_ | refine blk_alloc ?_ _)); exact BK499.out) hb); have n14_ := Aside0.mk (below_step (by repeat (first | (with_reducible first | exact HB.out | apply below_alloc | apply pw_below_drewN | apply below_drew1 | refine below_set ?_ (Aside0.out (by assumption))) | exact HB.out)) hb); clear HO_467002; clear HO_473002; clear HO_479002; clear HO498; clear HO505; clear BK458; clear BK459; clear BK466; clear BK472; clear BK478; clear BK482; clear BK486; clear BK492; clear BK499; clear HB; have HO_467002 := n0_; have HO_473002 := n1_; have HO_479002 := n2_; have HO498 := n3_; have HO505 := n4_; have BK458 := n5_; have BK459 := n6_; have BK466 := n7_; have BK472 := n8_; have BK478 := n9_; have BK482 := n10_; have BK486 := n11_; have BK492 := n12_; have BK499 := n13_; have HB := n14_; clear n0_ n1_ n2_ n3_ n4_ n5_ n6_ n7_ n8_ n9_ n10_ n11_ n12_ n13_ n14_; (try clear hb); (try clear hb2); (try clear hk); (try clear hi)) | ((with_reducible refine gate_dst (N := 15) rfl ?_); refine box_event ?hg (N := 15) ?hd (cs := #[.int .i64 0, .int .i64 0]) (t := 26) ?hr ?_; (case hd => rfl); (case hg => rfl); (case hr => first | (go_simp; done) | (go_simp; rfl)); intro gb509 hg w284 hbox hb; have n0_ := Aside0.mk (Kd.R_below (qR HO_467002.out) hb); have n1_ := Aside0.mk (Kd.R_below (qR HO_473002.out) hb); have n2_ := Aside0.mk (Kd.R_below (qR HO_479002.out) hb); have n3_ := Aside0.mk (Kd.R_below (qR HO498.out) hb); have n4_ := Aside0.mk (Kd.R_below (qR HO505.out) hb); have n5_ := Aside0.mk (blk_below (qB BK458.out) hb); have n6_ := Aside0.mk (blk_below (qB BK459.out) hb); have n7_ := Aside0.mk (blk_below (qB BK466.out) hb); have n8_ := Aside0.mk (blk_below (qB BK472.out) hb); have n9_ := Aside0.mk (blk_below (qB BK478.out) hb); have n10_ := Aside0.mk (blk_below (qB BK482.out) hb); have n11_ := Aside0.mk (blk_below (qB BK486.out) hb); have n12_ := Aside0.mk (blk_below (qB BK492.out) hb); have n13_ := Aside0.mk (blk_below (qB BK499.out) hb); have n14_ := Aside0.mk (below_step (by repeat (first | (with_reducible first | exact HB.out | apply below_alloc | apply pw_below_drewN | apply below_drew1 | refine below_set ?_ (Aside0.out (by assumption))) | exact HB.out)) hb); have n15_ := Aside0.mk (hbox); have n16_ := Aside0.mk ((by rw [hg]; exact (below_size (by repeat (first | (with_reducible first | exact HB.out | apply below_alloc | apply pw_below_drewN | apply below_drew1 | refine below_set ?_ (Aside0.out (by assumption))) | exact HB.out))) : w.heap.size ≤ gb509)); have n17_ := Aside0.mk ((by rw [hg]; exact (below_size (by repeat (first | (with_reducible first | exact HB.out | apply below_alloc | apply pw_below_drewN | apply below_drew1 | refine below_set ?_ (Aside0.out (by assumption))) | exact HB.out))) : w.heap.size ≤ gb509)); have n18_ := Aside0.mk ((by rw [hg]; exact Nat.ne_of_lt (blk_lt (qB BK458.out)) : gb458 ≠ gb509)); have n19_ := Aside0.mk ((by rw [hg]; exact Nat.ne_of_gt (blk_lt (qB BK458.out)) : gb509 ≠ gb458)); have n20_ := Aside0.mk ((by rw [hg]; exact Nat.ne_of_lt (blk_lt (qB BK459.out)) : gb459 ≠ gb509)); have n21_ := Aside0.mk ((by rw [hg]; exact Nat.ne_of_gt (blk_lt (qB BK459.out)) : gb509 ≠ gb459)); have n22_ := Aside0.mk ((by rw [hg]; exact Nat.ne_of_lt (blk_lt (qB BK466.out)) : gb466 ≠ gb509)); have n23_ := Aside0.mk ((by rw [hg]; exact Nat.ne_of_gt (blk_lt (qB BK466.out)) : gb509 ≠ gb466)); have n24_ := Aside0.mk ((by rw [hg]; exact Nat.ne_of_lt (blk_lt (qB BK472.out)) : gb472 ≠ gb509)); have n25_ := Aside0.mk ((by rw [hg]; exact Nat.ne_of_gt (blk_lt (qB BK472.out)) : gb509 ≠ gb472)); have n26_ := Aside0.mk ((by rw [hg]; exact Nat.ne_of_lt (blk_lt (qB BK478.out)) : gb478 ≠ gb509)); have n27_ := Aside0.mk ((by rw [hg]; exact Nat.ne_of_gt (blk_lt (qB BK478.out)) : gb509 ≠ gb478)); have n28_ := Aside0.mk ((by rw [hg]; exact Nat.ne_of_lt (blk_lt (qB BK482.out)) : gb482 ≠ gb509)); have n29_ := Aside0.mk ((by rw [hg]; exact Nat.ne_of_gt (blk_lt (qB BK482.out)) : gb509 ≠ gb482)); have n30_ := Aside0.mk ((by rw [hg]; exact Nat.ne_of_lt (blk_lt (qB BK486.out)) : gb486 ≠ gb509)); have n31_ := Aside0.mk ((by rw [hg]; exact Nat.ne_of_gt (blk_lt (qB BK486.out)) : gb509 ≠ gb486)); have n32_ := Aside0.mk ((by rw [hg]; exact Nat.ne_of_lt (blk_lt (qB BK492.out)) : gb492 ≠ gb509)); have n33_ := Aside0.mk ((by rw [hg]; exact Nat.ne_of_gt (blk_lt (qB BK492.out)) : gb509 ≠ gb492)); have n34_ := Aside0.mk ((by rw [hg]; exact Nat.ne_of_lt (blk_lt (qB BK499.out)) : gb499 ≠ gb509)); have n35_ := Aside0.mk ((by rw [hg]; exact Nat.ne_of_gt (blk_lt (qB BK499.out)) : gb509 ≠ gb499)); clear HO_467002; clear HO_473002; clear HO_479002; clear HO498; clear HO505; clear BK458; clear BK459; clear BK466; clear BK472; clear BK478; clear BK482; clear BK486; clear BK492; clear BK499; clear HB; have HO_467002 := n0_; have HO_473002 := n1_; have HO_479002 := n2_; have HO498 := n3_; have HO505 := n4_; have BK458 := n5_; have BK459 := n6_; have BK466 := n7_; have BK472 := n8_; have BK478 := n9_; have BK482 := n10_; have BK486 := n11_; have BK492 := n12_; have BK499 := n13_; have HB := n14_; have BK509 := n15_; have GW509 := n16_; have GE509 := n17_; have NB458_509 := n18_; have NB509_458 := n19_; have NB459_509 := n20_; have NB509_459 := n21_; have NB466_509 := n22_; have NB509_466 := n23_; have NB472_509 := n24_; have NB509_472 := n25_; have NB478_509 := n26_; have NB509_478 := n27_; have NB482_509 := n28_; have NB509_482 := n29_; have NB486_509 := n30_; have NB509_486 := n31_; have NB492_509 := n32_; have NB509_492 := n33_; have NB499_509 := n34_; have NB509_499 := n35_; clear n0_ n1_ n2_ n3_ n4_ n5_ n6_ n7_ n8_ n9_ n10_ n11_ n12_ n13_ n14_ n15_ n16_ n17_ n18_ n19_ n20_ n21_ n22_ n23_ n24_ n25_ n26_ n27_ n28_ n29_ n30_ n31_ n32_ n33_ n34_ n35_; clear hb hbox hg; have hnb285 := NB509_458.out; have hnc285 := NB458_509.out; have hnb286 := NB509_459.out; have hnc286 := NB459_509.out; have hnb287 := NB509_466.out; have hnc287 := NB466_509.out; have hnb288 := NB509_472.out; have hnc288 := NB472_509.out; have hnb289 := NB509_478.out; have hnc289 := NB478_509.out; have hnb290 := NB509_482.out; have hnc290 := NB482_509.out; have hnb291 := NB509_486.out; have hnc291 := NB486_509.out; have hnb292 := NB509_492.out; have hnc292 := NB492_509.out; have hnb293 := NB509_499.out; have hnc293 := NB499_509.out; have hcz294_0 : w284.cell? ⟨gb509, 0, none⟩ = some (.int .i64 0) := (blk_cell BK509.out 0).trans rfl; have hcz294_1 : w284.cell? ⟨gb509, 1, none⟩ = some (.int .i64 0) := (blk_cell BK509.out 1).trans rfl; have hfz294_0 := blk_frozen BK509.out 0; have hfz294_1 := blk_frozen BK509.out 1; have hnb295 := NB482_458.out; have hnc295 := NB458_482.out; have hnb296 := NB482_459.out; have hnc296 := NB459_482.out; have hnb297 := NB482_466.out; have hnc297 := NB466_482.out; have hnb298 := NB482_478.out; have hnc298 := NB478_482.out; have hnb299 := NB482_486.out; have hnc299 := NB486_482.out; have hcz300_0 : w284.cell? ⟨gb482, 0, none⟩ = some (.int .i64 t479) := (blk_cell BK482.out 0).trans rfl; have hcz300_1 : w284.cell? ⟨gb482, 1, none⟩ = some (.int .i64 t480) := (blk_cell BK482.out 1).trans rfl; have hfz300_0 := blk_frozen BK482.out 0; have hfz300_1 := blk_frozen BK482.out 1; have hnb301 := NB486_458.out; have hnc301 := NB458_486.out; have hnb302 := NB486_459.out; have hnc302 := NB459_486.out; have hnb303 := NB486_466.out; have hnc303 := NB466_486.out; have hnb304 := NB486_478.out; have hnc304 := NB478_486.out; have hcz305_0 : w284.cell? ⟨gb486, 0, none⟩ = some (.int .i64 t483) := (blk_cell BK486.out 0).trans rfl; have hcz305_1 : w284.cell? ⟨gb486, 1, none⟩ = some (.int .i64 t484) := (blk_cell BK486.out 1).trans rfl; have hfz305_0 := blk_frozen BK486.out 0; have hfz305_1 := blk_frozen BK486.out 1; have hnb306 := NB466_458.out; have hnc306 := NB458_466.out; have hnb307 := NB466_459.out; have hnc307 := NB459_466.out; have hnb308 := NB466_478.out; have hnc308 := NB478_466.out; have hcz309_0 : w284.cell? ⟨gb466, 0, none⟩ = some (.int .i64 t461) := (blk_cell BK466.out 0).trans rfl; have hcz309_1 : w284.cell? ⟨gb466, 1, none⟩ = some (.int .i64 t462) := (blk_cell BK466.out 1).trans rfl; have hcz309_2 : w284.cell? ⟨gb466, 2, none⟩ = some (.slice Ao20 t463.length co20) := (blk_cell BK466.out 2).trans rfl; have hfz309_0 := blk_frozen BK466.out 0; have hfz309_1 := blk_frozen BK466.out 1; have hfz309_2 := blk_frozen BK466.out 2) | (go_at_call 16; (with_reducible refine (meter_Right.calls kj8 t461 t462 _ _ t463 true _ ?side1 ?side2 A93.out).mono ?_); (case side1 => refine (Kd.R_reads' (e := 3) (base := w.heap.size) (ok := fun k_ => ((some k_ ≠ (.slice Ao28 t469.length co28 : Value).ownBlock ∧ (some k_ ≠ (.slice Ao37 t475.length co37 : Value).ownBlock ∧ some k_ ≠ (.slice Ao264 y496.length co264 : Value).ownBlock)) ∧ some k_ ≠ (.slice Ao280 y503.length co280 : Value).ownBlock)) (n := t463.length) (c := co20) ?_).2.2; exact (qR ((Kd.R_mono (Kd.R_far (p := ⟨gb509, 1, none⟩) (Kd.R_far (p := ⟨gb509, 0, none⟩) (Kd.R_types HO_467002.out BK509.out (by decide)) (fun _ hk => hk.2) (.int .i64 t506)) (fun _ hk => hk.2) (.int .i64 t507)) (fun _ h_ => h_.1))))); (case side2 => exact (Kd.R_reads' HO_467002.out).2.1); rintro e w310 ⟨rfl, hb⟩; have n0_ := Aside0.mk (Kd.R_below (qR ((Kd.R_mono (Kd.R_far (p := ⟨gb509, 1, none⟩) (Kd.R_far (p := ⟨gb509, 0, none⟩) (Kd.R_types HO_467002.out BK509.out (by decide)) (fun _ hk => hk.2) (.int .i64 t506)) (fun _ hk => hk.2) (.int .i64 t507)) (fun _ h_ => h_.1)))) hb); have n1_ := Aside0.mk (Kd.R_below (qR ((Kd.R_mono (Kd.R_far (p := ⟨gb509, 1, none⟩) (Kd.R_far (p := ⟨gb509, 0, none⟩) (Kd.R_types HO_473002.out BK509.out (by decide)) (fun _ hk => hk.2) (.int .i64 t506)) (fun _ hk => hk.2) (.int .i64 t507)) (fun _ h_ => h_.1)))) hb); have n2_ := Aside0.mk (Kd.R_below (qR ((Kd.R_mono (Kd.R_far (p := ⟨gb509, 1, none⟩) (Kd.R_far (p := ⟨gb509, 0, none⟩) (Kd.R_types HO_479002.out BK509.out (by decide)) (fun _ hk => hk.2) (.int .i64 t506)) (fun _ hk => hk.2) (.int .i64 t507)) (fun _ h_ => h_.1)))) hb); have n3_ := Aside0.mk (Kd.R_below (qR ((Kd.R_mono (Kd.R_far (p := ⟨gb509, 1, none⟩) (Kd.R_far (p := ⟨gb509, 0, none⟩) (Kd.R_types HO498.out BK509.out (by decide)) (fun _ hk => hk.2) (.int .i64 t506)) (fun _ hk => hk.2) (.int .i64 t507)) (fun _ h_ => h_.1)))) hb); have n4_ := Aside0.mk (Kd.R_below (qR ((Kd.R_mono (Kd.R_far (p := ⟨gb509, 1, none⟩) (Kd.R_far (p := ⟨gb509, 0, none⟩) (Kd.R_types HO505.out BK509.out (by decide)) (fun _ hk => hk.2) (.int .i64 t506)) (fun _ hk => hk.2) (.int .i64 t507)) (fun _ h_ => h_.1)))) hb); have n5_ := Aside0.mk (blk_below (g := gb458) (o := .cells #[.int .i64 a0_0, .int .i64 a0_1, .slice A0_2 l0_2.length c0_2] 24 (0, 0)) (by (with_reducible repeat (first | refine blk_drewN ?_ _ | refine blk_drew ?_ | refine blk_alloc ?_ _)); refine blk_far ?_ NB458_509.out _; (with_reducible repeat (first | refine blk_drewN ?_ _ | refine blk_drew ?_ | refine blk_alloc ?_ _)); refine blk_far ?_ NB458_509.out _; (with_reducible repeat (first | refine blk_drewN ?_ _ | refine blk_drew ?_ | refine blk_alloc ?_ _)); exact BK458.out) hb); have n6_ := Aside0.mk (blk_below (g := gb459) (o := .cells #[.int .i64 a1_0, .int .i64 a1_1, .slice A1_2 l1_2.length c1_2] 24 (0, 0)) (by (with_reducible repeat (first | refine blk_drewN ?_ _ | refine blk_drew ?_ | refine blk_alloc ?_ _)); refine blk_far ?_ NB459_509.out _; (with_reducible repeat (first | refine blk_drewN ?_ _ | refine blk_drew ?_ | refine blk_alloc ?_ _)); refine blk_far ?_ NB459_509.out _; (with_reducible repeat (first | refine blk_drewN ?_ _ | refine blk_drew ?_ | refine blk_alloc ?_ _)); exact BK459.out) hb); have n7_ := Aside0.mk (blk_below (g := gb466) (o := .cells #[.int .i64 t461, .int .i64 t462, .slice Ao20 t463.length co20] 24 (0, 0)) (by (with_reducible repeat (first | refine blk_drewN ?_ _ | refine blk_drew ?_ | refine blk_alloc ?_ _)); refine blk_far ?_ NB466_509.out _; (with_reducible repeat (first | refine blk_drewN ?_ _ | refine blk_drew ?_ | refine blk_alloc ?_ _)); refine blk_far ?_ NB466_509.out _; (with_reducible repeat (first | refine blk_drewN ?_ _ | refine blk_drew ?_ | refine blk_alloc ?_ _)); exact BK466.out) hb); have n8_ := Aside0.mk (blk_below (g := gb472) (o := .cells #[.int .i64 t467, .int .i64 t468, .slice Ao28 t469.length co28] 24 (0, 0)) (by (with_reducible repeat (first | refine blk_drewN ?_ _ | refine blk_drew ?_ | refine blk_alloc ?_ _)); refine blk_far ?_ NB472_509.out _; (with_reducible repeat (first | refine blk_drewN ?_ _ | refine blk_drew ?_ | refine blk_alloc ?_ _)); refine blk_far ?_ NB472_509.out _; (with_reducible repeat (first | refine blk_drewN ?_ _ | refine blk_drew ?_ | refine blk_alloc ?_ _)); exact BK472.out) hb); have n9_ := Aside0.mk (blk_below (g := gb478) (o := .cells #[.int .i64 t473, .int .i64 t474, .slice Ao37 t475.length co37] 24 (0, 0)) (by (with_reducible repeat (first | refine blk_drewN ?_ _ | refine blk_drew ?_ | refine blk_alloc ?_ _)); refine blk_far ?_ NB478_509.out _; (with_reducible repeat (first | refine blk_drewN ?_ _ | refine blk_drew ?_ | refine blk_alloc ?_ _)); refine blk_far ?_ NB478_509.out _; (with_reducible repeat (first | refine blk_drewN ?_ _ | refine blk_drew ?_ | refine blk_alloc ?_ _)); exact BK478.out) hb); have n10_ := Aside0.mk (blk_below (g := gb482) (o := .cells #[.int .i64 t479, .int .i64 t480] 26 (0, 0)) (by (with_reducible repeat (first | refine blk_drewN ?_ _ | refine blk_drew ?_ | refine blk_alloc ?_ _)); refine blk_far ?_ NB482_509.out _; (with_reducible repeat (first | refine blk_drewN ?_ _ | refine blk_drew ?_ | refine blk_alloc ?_ _)); refine blk_far ?_ NB482_509.out _; (with_reducible repeat (first | refine blk_drewN ?_ _ | refine blk_drew ?_ | refine blk_alloc ?_ _)); exact BK482.out) hb); have n11_ := Aside0.mk (blk_below (g := gb486) (o := .cells #[.int .i64 t483, .int .i64 t484] 26 (0, 0)) (by (with_reducible repeat (first | refine blk_drewN ?_ _ | refine blk_drew ?_ | refine blk_alloc ?_ _)); refine blk_far ?_ NB486_509.out _; (with_reducible repeat (first | refine blk_drewN ?_ _ | refine blk_drew ?_ | refine blk_alloc ?_ _)); refine blk_far ?_ NB486_509.out _; (with_reducible repeat (first | refine blk_drewN ?_ _ | refine blk_drew ?_ | refine blk_alloc ?_ _)); exact BK486.out) hb); have n12_ := Aside0.mk (blk_below (g := gb492) (o := .cells #[.int .i64 t467, .int .i64 t468, .slice Ao264 y496.length co264] 24 (0, 0)) (by (with_reducible repeat (first | refine blk_drewN ?_ _ | refine blk_drew ?_ | refine blk_alloc ?_ _)); refine blk_far ?_ NB492_509.out _; (with_reducible repeat (first | refine blk_drewN ?_ _ | refine blk_drew ?_ | refine blk_alloc ?_ _)); refine blk_far ?_ NB492_509.out _; (with_reducible repeat (first | refine blk_drewN ?_ _ | refine blk_drew ?_ | refine blk_alloc ?_ _)); exact BK492.out) hb); have n13_ := Aside0.mk (blk_below (g := gb499) (o := .cells #[.int .i64 t467, .int .i64 t468, .slice Ao280 y503.length co280] 24 (0, 0)) (by (with_reducible repeat (first | refine blk_drewN ?_ _ | refine blk_drew ?_ | refine blk_alloc ?_ _)); refine blk_far ?_ NB499_509.out _; (with_reducible repeat (first | refine blk_drewN ?_ _ | refine blk_drew ?_ | refine blk_alloc ?_ _)); refine blk_far ?_ NB499_509.out _; (with_reducible repeat (first | refine blk_drewN ?_ _ | refine blk_drew ?_ | refine blk_alloc ?_ _)); exact BK499.out) hb); have n14_ := Aside0.mk (blk_below (g := gb509) (o := .cells #[.int .i64 t506, .int .i64 t507] 26 (0, 0)) (by (with_reducible repeat (first | refine blk_drewN ?_ _ | refine blk_drew ?_ | refine blk_alloc ?_ _)); refine blk_put (cs := #[.int .i64 t506, .int .i64 0]) ?_ 1 _ rfl; (with_reducible repeat (first | refine blk_drewN ?_ _ | refine blk_drew ?_ | refine blk_alloc ?_ _)); refine blk_put (cs := #[.int .i64 0, .int .i64 0]) ?_ 0 _ rfl; (with_reducible repeat (first | refine blk_drewN ?_ _ | refine blk_drew ?_ | refine blk_alloc ?_ _)); exact BK509.out) hb); have n15_ := Aside0.mk (below_step (by repeat (first | (with_reducible first | exact HB.out | apply below_alloc | apply pw_below_drewN | apply below_drew1 | refine below_set ?_ (Aside0.out (by assumption))) | exact HB.out)) hb); clear HO_467002; clear HO_473002; clear HO_479002; clear HO498; clear HO505; clear BK458; clear BK459; clear BK466; clear BK472; clear BK478; clear BK482; clear BK486; clear BK492; clear BK499; clear BK509; clear HB; have HO_467002 := n0_; have HO_473002 := n1_; have HO_479002 := n2_; have HO498 := n3_; have HO505 := n4_; have BK458 := n5_; have BK459 := n6_; have BK466 := n7_; have BK472 := n8_; have BK478 := n9_; have BK482 := n10_; have BK486 := n11_; have BK492 := n12_; have BK499 := n13_; have BK509 := n14_; have HB := n15_; clear n0_ n1_ n2_ n3_ n4_ n5_ n6_ n7_ n8_ n9_ n10_ n11_ n12_ n13_ n14_ n15_; (try clear hb); (try clear hb2); (try clear hk); (try clear hi); have hcz311_0 : w310.cell? ⟨gb472, 0, none⟩ = some (.int .i64 t467) := (blk_cell BK472.out 0).trans rfl; have hcz311_1 : w310.cell? ⟨gb472, 1, none⟩ = some (.int .i64 t468) := (blk_cell BK472.out 1).trans rfl; have hcz311_2 : w310.cell? ⟨gb472, 2, none⟩ = some (.slice Ao28 t469.length co28) := (blk_cell BK472.out 2).trans rfl; have hfz311_0 := blk_frozen BK472.out 0; have hfz311_1 := blk_frozen BK472.out 1; have hfz311_2 := blk_frozen BK472.out 2) | (go_at_call 16; (with_reducible refine (meter_Right.calls kj8 t467 t468 _ _ t469 true _ ?side1 ?side2 A95.out).mono ?_); (case side1 => repeat (first | exact (Kd.R_reads' HO_473002.out).2.2 | (with_reducible refine Kd.C_alloc ?_ _) | (with_reducible refine Kd.C_drewN ?_ _) | (with_reducible refine Kd.C_drew ?_))); (case side2 => exact (Kd.R_reads' HO_473002.out).2.1); rintro e w312 ⟨rfl, hb⟩; have n0_ := Aside0.mk (Kd.R_below (qR HO_467002.out) hb); have n1_ := Aside0.mk (Kd.R_below (qR HO_473002.out) hb); have n2_ := Aside0.mk (Kd.R_below (qR HO_479002.out) hb); have n3_ := Aside0.mk (Kd.R_below (qR HO498.out) hb); have n4_ := Aside0.mk (Kd.R_below (qR HO505.out) hb); have n5_ := Aside0.mk (blk_below (qB BK458.out) hb); have n6_ := Aside0.mk (blk_below (qB BK459.out) hb); have n7_ := Aside0.mk (blk_below (qB BK466.out) hb); have n8_ := Aside0.mk (blk_below (qB BK472.out) hb); have n9_ := Aside0.mk (blk_below (qB BK478.out) hb); have n10_ := Aside0.mk (blk_below (qB BK482.out) hb); have n11_ := Aside0.mk (blk_below (qB BK486.out) hb); have n12_ := Aside0.mk (blk_below (qB BK492.out) hb); have n13_ := Aside0.mk (blk_below (qB BK499.out) hb); have n14_ := Aside0.mk (blk_below (qB BK509.out) hb); have n15_ := Aside0.mk (below_step (by repeat (first | (with_reducible first | exact HB.out | apply below_alloc | apply pw_below_drewN | apply below_drew1 | refine below_set ?_ (Aside0.out (by assumption))) | exact HB.out)) hb); clear HO_467002; clear HO_473002; clear HO_479002; clear HO498; clear HO505; clear BK458; clear BK459; clear BK466; clear BK472; clear BK478; clear BK482; clear BK486; clear BK492; clear BK499; clear BK509; clear HB; have HO_467002 := n0_; have HO_473002 := n1_; have HO_479002 := n2_; have HO498 := n3_; have HO505 := n4_; have BK458 := n5_; have BK459 := n6_; have BK466 := n7_; have BK472 := n8_; have BK478 := n9_; have BK482 := n10_; have BK486 := n11_; have BK492 := n12_; have BK499 := n13_; have BK509 := n14_; have HB := n15_; clear n0_ n1_ n2_ n3_ n4_ n5_ n6_ n7_ n8_ n9_ n10_ n11_ n12_ n13_ n14_ n15_; (try clear hb); (try clear hb2); (try clear hk); (try clear hi); have hcz313_0 : w312.cell? ⟨gb492, 0, none⟩ = some (.int .i64 t467) := (blk_cell BK492.out 0).trans rfl; have hcz313_1 : w312.cell? ⟨gb492, 1, none⟩ = some (.int .i64 t468) := (blk_cell BK492.out 1).trans rfl; have hcz313_2 : w312.cell? ⟨gb492, 2, none⟩ = some (.slice Ao264 y496.length co264) := (blk_cell BK492.out 2).trans rfl; have hfz313_0 := blk_frozen BK492.out 0; have hfz313_1 := blk_frozen BK492.out 1; have hfz313_2 := blk_frozen BK492.out 2) | (go_at_call 16; (with_reducible refine (meter_Right.calls kj8 t467 t468 _ _ y496 false _ ?side1 ?side2 A97.out).mono ?_); (case side1 => repeat (first | exact (Kd.R_reads' HO498.out).2.2 | (with_reducible refine Kd.C_alloc ?_ _) | (with_reducible refine Kd.C_drewN ?_ _) | (with_reducible refine Kd.C_drew ?_))); (case side2 => exact (Kd.R_reads' HO498.out).2.1); rintro e w314 ⟨rfl, hb⟩; have n0_ := Aside0.mk (Kd.R_below (qR HO_467002.out) hb); have n1_ := Aside0.mk (Kd.R_below (qR HO_473002.out) hb); have n2_ := Aside0.mk (Kd.R_below (qR HO_479002.out) hb); have n3_ := Aside0.mk (Kd.R_below (qR HO498.out) hb); have n4_ := Aside0.mk (Kd.R_below (qR HO505.out) hb); have n5_ := Aside0.mk (blk_below (qB BK458.out) hb); have n6_ := Aside0.mk (blk_below (qB BK459.out) hb); have n7_ := Aside0.mk (blk_below (qB BK466.out) hb); have n8_ := Aside0.mk (blk_below (qB BK472.out) hb); have n9_ := Aside0.mk (blk_below (qB BK478.out) hb); have n10_ := Aside0.mk (blk_below (qB BK482.out) hb); have n11_ := Aside0.mk (blk_below (qB BK486.out) hb); have n12_ := Aside0.mk (blk_below (qB BK492.out) hb); have n13_ := Aside0.mk (blk_below (qB BK499.out) hb); have n14_ := Aside0.mk (blk_below (qB BK509.out) hb); have n15_ := Aside0.mk (below_step (by repeat (first | (with_reducible first | exact HB.out | apply below_alloc | apply pw_below_drewN | apply below_drew1 | refine below_set ?_ (Aside0.out (by assumption))) | exact HB.out)) hb); clear HO_467002; clear HO_473002; clear HO_479002; clear HO498; clear HO505; clear BK458; clear BK459; clear BK466; clear BK472; clear BK478; clear BK482; clear BK486; clear BK492; clear BK499; clear BK509; clear HB; have HO_467002 := n0_; have HO_473002 := n1_; have HO_479002 := n2_; have HO498 := n3_; have HO505 := n4_; have BK458 := n5_; have BK459 := n6_; have BK466 := n7_; have BK472 := n8_; have BK478 := n9_; have BK482 := n10_; have BK486 := n11_; have BK492 := n12_; have BK499 := n13_; have BK509 := n14_; have HB := n15_; clear n0_ n1_ n2_ n3_ n4_ n5_ n6_ n7_ n8_ n9_ n10_ n11_ n12_ n13_ n14_ n15_; (try clear hb); (try clear hb2); (try clear hk); (try clear hi); have hcz315_0 : w314.cell? ⟨gb499, 0, none⟩ = some (.int .i64 t467) := (blk_cell BK499.out 0).trans rfl; have hcz315_1 : w314.cell? ⟨gb499, 1, none⟩ = some (.int .i64 t468) := (blk_cell BK499.out 1).trans rfl; have hcz315_2 : w314.cell? ⟨gb499, 2, none⟩ = some (.slice Ao280 y503.length co280) := (blk_cell BK499.out 2).trans rfl; have hfz315_0 := blk_frozen BK499.out 0; have hfz315_1 := blk_frozen BK499.out 1; have hfz315_2 := blk_frozen BK499.out 2) | (go_at_call 16; (with_reducible refine (meter_Right.calls kj8 t467 t468 _ _ y503 false _ ?side1 ?side2 A169.out).mono ?_); (case side1 => repeat (first | exact (Kd.R_reads' HO505.out).2.2 | (with_reducible refine Kd.C_alloc ?_ _) | (with_reducible refine Kd.C_drewN ?_ _) | (with_reducible refine Kd.C_drew ?_))); (case side2 => exact (Kd.R_reads' HO505.out).2.1); rintro e w316 ⟨rfl, hb⟩; have n0_ := Aside0.mk (Kd.R_below (qR HO_467002.out) hb); have n1_ := Aside0.mk (Kd.R_below (qR HO_473002.out) hb); have n2_ := Aside0.mk (Kd.R_below (qR HO_479002.out) hb); have n3_ := Aside0.mk (Kd.R_below (qR HO498.out) hb); have n4_ := Aside0.mk (Kd.R_below (qR HO505.out) hb); have n5_ := Aside0.mk (blk_below (qB BK458.out) hb); have n6_ := Aside0.mk (blk_below (qB BK459.out) hb); have n7_ := Aside0.mk (blk_below (qB BK466.out) hb); have n8_ := Aside0.mk (blk_below (qB BK472.out) hb); have n9_ := Aside0.mk (blk_below (qB BK478.out) hb); have n10_ := Aside0.mk (blk_below (qB BK482.out) hb); have n11_ := Aside0.mk (blk_below (qB BK486.out) hb); have n12_ := Aside0.mk (blk_below (qB BK492.out) hb); have n13_ := Aside0.mk (blk_below (qB BK499.out) hb); have n14_ := Aside0.mk (blk_below (qB BK509.out) hb); have n15_ := Aside0.mk (below_step (by repeat (first | (with_reducible first | exact HB.out | apply below_alloc | apply pw_below_drewN | apply below_drew1 | refine below_set ?_ (Aside0.out (by assumption))) | exact HB.out)) hb); clear HO_467002; clear HO_473002; clear HO_479002; clear HO498; clear HO505; clear BK458; clear BK459; clear BK466; clear BK472; clear BK478; clear BK482; clear BK486; clear BK492; clear BK499; clear BK509; clear HB; have HO_467002 := n0_; have HO_473002 := n1_; have HO_479002 := n2_; have HO498 := n3_; have HO505 := n4_; have BK458 := n5_; have BK459 := n6_; have BK466 := n7_; have BK472 := n8_; have BK478 := n9_; have BK482 := n10_; have BK486 := n11_; have BK492 := n12_; have BK499 := n13_; have BK509 := n14_; have HB := n15_; clear n0_ n1_ n2_ n3_ n4_ n5_ n6_ n7_ n8_ n9_ n10_ n11_ n12_ n13_ n14_ n15_; (try clear hb); (try clear hb2); (try clear hk); (try clear hi); have hcz317_0 : w316.cell? ⟨gb472, 0, none⟩ = some (.int .i64 t467) := (blk_cell BK472.out 0).trans rfl; have hcz317_1 : w316.cell? ⟨gb472, 1, none⟩ = some (.int .i64 t468) := (blk_cell BK472.out 1).trans rfl; have hcz317_2 : w316.cell? ⟨gb472, 2, none⟩ = some (.slice Ao28 t469.length co28) := (blk_cell BK472.out 2).trans rfl; have hfz317_0 := blk_frozen BK472.out 0; have hfz317_1 := blk_frozen BK472.out 1; have hfz317_2 := blk_frozen BK472.out 2; have hcz318_0 : w316.cell? ⟨gb492, 0, none⟩ = some (.int .i64 t467) := (blk_cell BK492.out 0).trans rfl; have hcz318_1 : w316.cell? ⟨gb492, 1, none⟩ = some (.int .i64 t468) := (blk_cell BK492.out 1).trans rfl; have hcz318_2 : w316.cell? ⟨gb492, 2, none⟩ = some (.slice Ao264 y496.length co264) := (blk_cell BK492.out 2).trans rfl; have hfz318_0 := blk_frozen BK492.out 0; have hfz318_1 := blk_frozen BK492.out 1; have hfz318_2 := blk_frozen BK492.out 2) | (go_at_call 18; (with_reducible refine (meter_Same.calls kj8 t467 t468 _ _ t469 t467 t468 _ _ y496 t514 _ ?side1 ?side2 ?side3 ?side4 A244.out).mono ?_); (case side1 => repeat (first | exact (Kd.R_reads' HO_473002.out).2.2 | (with_reducible refine Kd.C_alloc ?_ _) | (with_reducible refine Kd.C_drewN ?_ _) | (with_reducible refine Kd.C_drew ?_))); (case side2 => exact (Kd.R_reads' HO_473002.out).2.1); (case side3 => repeat (first | exact (Kd.R_reads' HO498.out).2.2 | (with_reducible refine Kd.C_alloc ?_ _) | (with_reducible refine Kd.C_drewN ?_ _) | (with_reducible refine Kd.C_drew ?_))); (case side4 => exact (Kd.R_reads' HO498.out).2.1); rintro e w319 ⟨rfl, hb⟩; have n0_ := Aside0.mk (Kd.R_below (qR HO_467002.out) hb); have n1_ := Aside0.mk (Kd.R_below (qR HO_473002.out) hb); have n2_ := Aside0.mk (Kd.R_below (qR HO_479002.out) hb); have n3_ := Aside0.mk (Kd.R_below (qR HO498.out) hb); have n4_ := Aside0.mk (Kd.R_below (qR HO505.out) hb); have n5_ := Aside0.mk (blk_below (qB BK458.out) hb); have n6_ := Aside0.mk (blk_below (qB BK459.out) hb); have n7_ := Aside0.mk (blk_below (qB BK466.out) hb); have n8_ := Aside0.mk (blk_below (qB BK472.out) hb); have n9_ := Aside0.mk (blk_below (qB BK478.out) hb); have n10_ := Aside0.mk (blk_below (qB BK482.out) hb); have n11_ := Aside0.mk (blk_below (qB BK486.out) hb); have n12_ := Aside0.mk (blk_below (qB BK492.out) hb); have n13_ := Aside0.mk (blk_below (qB BK499.out) hb); have n14_ := Aside0.mk (blk_below (qB BK509.out) hb); have n15_ := Aside0.mk (below_step (by repeat (first | (with_reducible first | exact HB.out | apply below_alloc | apply pw_below_drewN | apply below_drew1 | refine below_set ?_ (Aside0.out (by assumption))) | exact HB.out)) hb); clear HO_467002; clear HO_473002; clear HO_479002; clear HO498; clear HO505; clear BK458; clear BK459; clear BK466; clear BK472; clear BK478; clear BK482; clear BK486; clear BK492; clear BK499; clear BK509; clear HB; have HO_467002 := n0_; have HO_473002 := n1_; have HO_479002 := n2_; have HO498 := n3_; have HO505 := n4_; have BK458 := n5_; have BK459 := n6_; have BK466 := n7_; have BK472 := n8_; have BK478 := n9_; have BK482 := n10_; have BK486 := n11_; have BK492 := n12_; have BK499 := n13_; have BK509 := n14_; have HB := n15_; clear n0_ n1_ n2_ n3_ n4_ n5_ n6_ n7_ n8_ n9_ n10_ n11_ n12_ n13_ n14_ n15_; (try clear hb); (try clear hb2); (try clear hk); (try clear hi)))
                             go_ret
                             exact ⟨by first | rfl | (simp [errW_none, errW_some] <;> rfl) | (simp [*, errW_none, errW_some] <;> rfl), by repeat (first | (with_reducible first | exact HB.out | apply below_alloc | apply pw_below_drewN | apply below_drew1 | refine below_set ?_ (Aside0.out (by assumption))) | exact HB.out)⟩
                           · rw [if_neg c243] at H
                             cases H
                     · replace c96 := Bool.eq_false_iff.mpr c96
                       subst c96
                       have H1 : none = some r := by rw [if_neg (show ¬ (false = true) by decide)] at H; exact H
                       cases H1
                   · replace c94 := Bool.eq_false_iff.mpr c94
                     subst c94
                     have H1 : none = some r := by rw [if_neg (show ¬ (false = true) by decide)] at H; exact H
                     cases H1
                 · rw [if_neg c92] at H
                   cases H
               · rw [if_neg c91] at H
                 cases H
             · rw [if_neg c90] at H
               cases H
           · replace c89 := Bool.eq_false_iff.mpr c89
             subst c89
             have H1 : none = some r := by rw [if_neg (show ¬ (false = true) by decide)] at H; exact H
             cases H1
         · rw [if_neg c87] at H
           exact absurd H (by simp)
       · rw [if_neg c86] at H
         exact absurd H (by simp)
     · rw [if_neg c85] at H
       exact absurd H (by simp)

end Go.Proofs.Ytbncdlnnjhadgaa.Q
