-- Written by a program of this session (myprint.py), function by function.
import Derived.Test.YtbncdlnnjhadgaaQ0
import Derived.Test.YtbncdlnnjhadgaaQ2
import Derived.Test.YtbncdlnnjhadgaaQ4
import Derived.Test.YtbncdlnnjhadgaaQ5
import Derived.Test.YtbncdlnnjhadgaaQ6
import Derived.Test.YtbncdlnnjhadgaaQ9
import Derived.Test.YtbncdlnnjhadgaaSmallMost
namespace Go.Proofs.Ytbncdlnnjhadgaa.Q
open Go.RowKit Go.Proofs.YtbncdlnnjhadgaaW.PrintWords Go.Proofs.YtbncdlnnjhadgaaW.PrintLast Go.Proofs.YtbncdlnnjhadgaaW.PrintMore
attribute [local go_sem] max2_int min2_int max_two min_two max_three min_three max_four min_four   -- for this text's walks alone
set_option linter.unusedVariables false
set_option linter.unusedSimpArgs false

/-! ### partitalaw05_MeterParts: function 7 -/
mutual
def partitalaw05_MeterParts.j0 : Nat → Bool → Bool → Int → Int → List Int → Int → Int → Int → Int → Int → Int → Option (Bool)
 | 0, _, _, _, _, _, _, _, _, _, _, _ => none
 | k + 1, x9, x59, x387000, x387001, x387002, x390000, x390001, x393000, x393001, x396000, x396001 => if x59 = true then (some x9) else ((ratio_Sub.f x393000 x393001 x390000 x390001).bind fun bt398 => ((ratio_Sub.f x396000 x396001 x393000 x393001).bind fun bt402 => ((ratio_Sub.f x396000 x396001 x390000 x390001).bind fun bt406 => ((meter_Cut.f k x387000 x387001 x387002 x390000 x390001 bt398.1 bt398.2.1).bind fun bt410 => ((meter_Cut.f k x387000 x387001 x387002 x393000 x393001 bt402.1 bt402.2.1).bind fun bt414 => ((meter_Cut.f k x387000 x387001 x387002 x390000 x390001 bt406.1 bt406.2.1).bind fun bt418 => ((meter_Weight.f k x387000 x387001 x387002 x393000 x393001).bind fun bt422 => (if bt398.2.2 = 0 then (if bt402.2.2 = 0 then (if bt406.2.2 = 0 then (if bt410.2 = 0 then (if bt414.2 = 0 then (if bt418.2 = 0 then (partitalaw05_MeterParts.j1 k x9 bt410.1 bt414.1 bt418.1 bt422.1 (bt422.2 != 0)) else (partitalaw05_MeterParts.j1 k x9 bt410.1 bt414.1 bt418.1 bt422.1 true)) else (partitalaw05_MeterParts.j1 k x9 bt410.1 bt414.1 bt418.1 bt422.1 true)) else (partitalaw05_MeterParts.j1 k x9 bt410.1 bt414.1 bt418.1 bt422.1 true)) else (partitalaw05_MeterParts.j1 k x9 bt410.1 bt414.1 bt418.1 bt422.1 true)) else (partitalaw05_MeterParts.j1 k x9 bt410.1 bt414.1 bt418.1 bt422.1 true)) else (partitalaw05_MeterParts.j1 k x9 bt410.1 bt414.1 bt418.1 bt422.1 true)))))))))
def partitalaw05_MeterParts.j1 : Nat → Bool → List (S26) → List (S26) → List (S26) → Int → Bool → Option (Bool)
 | 0, _, _, _, _, _, _ => none
 | k + 1, x9, x20, x22, x24, x26, x131 => if x131 = true then none else (if (x20.length : Int) = 0 then (partitalaw05_MeterParts.j2 k x9 x20 x22 x24 x26 true) else (partitalaw05_MeterParts.j2 k x9 x20 x22 x24 x26 ((x22.length : Int) == 0)))
def partitalaw05_MeterParts.j2 : Nat → Bool → List (S26) → List (S26) → List (S26) → Int → Bool → Option (Bool)
 | 0, _, _, _, _, _, _ => none
 | k + 1, x9, x20, x22, x24, x26, x139 => if x139 = true then none else (if x26 ≥ 2 then (if x9 = true then (if ([] : List (S26)).length + x20.length < 8796093022208 then ((some (([] : List (S26)) ++ x20 : List (S26))).bind fun y424 => (if y424.length + x22.length < 8796093022208 then ((partitaref05_Ratios.f k x24 (y424 ++ x22)).bind fun t430 => (some t430)) else (none))) else (none)) else none) else (if 0 ≤ (wrap64 ((x20.length : Int) - 1)) then (if (wrap64 ((x20.length : Int) - 1)) < (x20.length : Int) then (if 0 < (x22.length : Int) then ((ratio_Add.f ((rd_T26 x20 (wrap64 ((x20.length : Int) - 1))).f0) ((rd_T26 x20 (wrap64 ((x20.length : Int) - 1))).f1) ((rd_T26 x22 0).f0) ((rd_T26 x22 0).f1)).bind fun bt433 => (if (wrap64 ((x20.length : Int) - 1)) ≤ (x20.length : Int) then ((some (x20.take ((wrap64 ((x20.length : Int) - 1)) : Int).toNat : List (S26))).bind fun y437 => (if ([] : List (S26)).length + y437.length < 8796093022208 then ((some (([] : List (S26)) ++ y437 : List (S26))).bind fun y441 => ((some (([(⟨bt433.1, bt433.2.1⟩ : S26)] : List (S26)) : List (S26))).bind fun y444 => (if y441.length + y444.length < 8796093022208 then ((some (y441 ++ y444 : List (S26))).bind fun y447 => (if x9 = true then (if bt433.2.2 = 0 then (if 1 ≤ (x22.length : Int) then ((some (x22.drop 1 : List (S26))).bind fun y450 => (if y447.length + y450.length < 8796093022208 then ((partitaref05_Ratios.f k x24 (y447 ++ y450)).bind fun t457 => (some t457)) else (none))) else (none)) else none) else none)) else (none)))) else (none))) else (none))) else (none)) else (none)) else (none)))
end
def partitalaw05_MeterParts.f (k : Nat) (a0_0 : Int) (a0_1 : Int) (l0_2 : List Int) (a1 : Bool) (a2_0 : Int) (a2_1 : Int) (a2_2 : Int) (a3 : Int) : Option (Bool) := (partitalaw05_awake.f k).bind fun t380 => ((partitalaw05_Meter.f k a0_0 a0_1 l0_2 a1).bind fun bt381 => ((partitalaw05_place.f k bt381.1 bt381.2.1 bt381.2.2 a2_0 a3).bind fun bt387 => ((partitalaw05_place.f k bt381.1 bt381.2.1 bt381.2.2 a2_1 a3).bind fun bt390 => ((partitalaw05_place.f k bt381.1 bt381.2.1 bt381.2.2 a2_2 a3).bind fun bt393 => ((ratio_Compare.f bt387.1 bt387.2 bt390.1 bt390.2).bind fun t396 => (if t396 ≥ 0 then (partitalaw05_MeterParts.j0 k t380 true bt381.1 bt381.2.1 bt381.2.2 bt387.1 bt387.2 bt390.1 bt390.2 bt393.1 bt393.2) else ((ratio_Compare.f bt390.1 bt390.2 bt393.1 bt393.2).bind fun t397 => (partitalaw05_MeterParts.j0 k t380 (decide (t397 ≥ 0)) bt381.1 bt381.2.1 bt381.2.2 bt387.1 bt387.2 bt390.1 bt390.2 bt393.1 bt393.2))))))))
theorem partitalaw05_MeterParts.mono_l : ∀ k, (∀ y0 y1 y2 y3 y4 y5 y6 y7 y8 y9 y10, LeO (partitalaw05_MeterParts.j0 k y0 y1 y2 y3 y4 y5 y6 y7 y8 y9 y10) (partitalaw05_MeterParts.j0 (k + 1) y0 y1 y2 y3 y4 y5 y6 y7 y8 y9 y10)) ∧ (∀ y0 y1 y2 y3 y4 y5, LeO (partitalaw05_MeterParts.j1 k y0 y1 y2 y3 y4 y5) (partitalaw05_MeterParts.j1 (k + 1) y0 y1 y2 y3 y4 y5)) ∧ (∀ y0 y1 y2 y3 y4 y5, LeO (partitalaw05_MeterParts.j2 k y0 y1 y2 y3 y4 y5) (partitalaw05_MeterParts.j2 (k + 1) y0 y1 y2 y3 y4 y5))
 | 0 => ⟨fun _ _ _ _ _ _ _ _ _ _ _ r h => by simp [partitalaw05_MeterParts.j0] at h, fun _ _ _ _ _ _ r h => by simp [partitalaw05_MeterParts.j1] at h, fun _ _ _ _ _ _ r h => by simp [partitalaw05_MeterParts.j2] at h⟩
 | k + 1 => by
  obtain ⟨ih0, ih1, ih2⟩ := partitalaw05_MeterParts.mono_l k
  refine ⟨?_, ?_, ?_⟩
  · intro y0 y1 y2 y3 y4 y5 y6 y7 y8 y9 y10
    unfold partitalaw05_MeterParts.j0
    repeat' first
    | (with_reducible exact ih0 _ _ _ _ _ _ _ _ _ _ _)
    | (with_reducible exact ih1 _ _ _ _ _ _)
    | (with_reducible exact ih2 _ _ _ _ _ _)
    | (with_reducible exact meter_Cut.mono _ _ _ _ _ _ _ _)
    | (with_reducible exact meter_Weight.mono _ _ _ _ _ _)
    | (with_reducible exact partitalaw05_Meter.mono _ _ _ _ _)
    | (with_reducible exact partitalaw05_awake.mono _)
    | (with_reducible exact partitalaw05_place.mono _ _ _ _ _ _)
    | (with_reducible exact partitaref05_Ratios.mono _ _ _)
    | (with_reducible exact LeO.refl _)
    | (with_reducible exact LeO.none _)
    | (with_reducible refine LeO.ite ?_ ?_)
    | (with_reducible refine LeO.bind ?_ (fun _ => ?_))
    | exact ih0 _ _ _ _ _ _ _ _ _ _ _
    | exact ih1 _ _ _ _ _ _
    | exact ih2 _ _ _ _ _ _
    | exact meter_Cut.mono _ _ _ _ _ _ _ _
    | exact meter_Weight.mono _ _ _ _ _ _
    | exact partitalaw05_Meter.mono _ _ _ _ _
    | exact partitalaw05_awake.mono _
    | exact partitalaw05_place.mono _ _ _ _ _ _
    | exact partitaref05_Ratios.mono _ _ _
    | exact LeO.none _
    | refine LeO.ite ?_ ?_
    | refine LeO.bind ?_ (fun _ => ?_)
  · intro y0 y1 y2 y3 y4 y5
    unfold partitalaw05_MeterParts.j1
    repeat' first
    | (with_reducible exact ih0 _ _ _ _ _ _ _ _ _ _ _)
    | (with_reducible exact ih1 _ _ _ _ _ _)
    | (with_reducible exact ih2 _ _ _ _ _ _)
    | (with_reducible exact meter_Cut.mono _ _ _ _ _ _ _ _)
    | (with_reducible exact meter_Weight.mono _ _ _ _ _ _)
    | (with_reducible exact partitalaw05_Meter.mono _ _ _ _ _)
    | (with_reducible exact partitalaw05_awake.mono _)
    | (with_reducible exact partitalaw05_place.mono _ _ _ _ _ _)
    | (with_reducible exact partitaref05_Ratios.mono _ _ _)
    | (with_reducible exact LeO.refl _)
    | (with_reducible exact LeO.none _)
    | (with_reducible refine LeO.ite ?_ ?_)
    | (with_reducible refine LeO.bind ?_ (fun _ => ?_))
    | exact ih0 _ _ _ _ _ _ _ _ _ _ _
    | exact ih1 _ _ _ _ _ _
    | exact ih2 _ _ _ _ _ _
    | exact meter_Cut.mono _ _ _ _ _ _ _ _
    | exact meter_Weight.mono _ _ _ _ _ _
    | exact partitalaw05_Meter.mono _ _ _ _ _
    | exact partitalaw05_awake.mono _
    | exact partitalaw05_place.mono _ _ _ _ _ _
    | exact partitaref05_Ratios.mono _ _ _
    | exact LeO.none _
    | refine LeO.ite ?_ ?_
    | refine LeO.bind ?_ (fun _ => ?_)
  · intro y0 y1 y2 y3 y4 y5
    unfold partitalaw05_MeterParts.j2
    repeat' first
    | (with_reducible exact ih0 _ _ _ _ _ _ _ _ _ _ _)
    | (with_reducible exact ih1 _ _ _ _ _ _)
    | (with_reducible exact ih2 _ _ _ _ _ _)
    | (with_reducible exact meter_Cut.mono _ _ _ _ _ _ _ _)
    | (with_reducible exact meter_Weight.mono _ _ _ _ _ _)
    | (with_reducible exact partitalaw05_Meter.mono _ _ _ _ _)
    | (with_reducible exact partitalaw05_awake.mono _)
    | (with_reducible exact partitalaw05_place.mono _ _ _ _ _ _)
    | (with_reducible exact partitaref05_Ratios.mono _ _ _)
    | (with_reducible exact LeO.refl _)
    | (with_reducible exact LeO.none _)
    | (with_reducible refine LeO.ite ?_ ?_)
    | (with_reducible refine LeO.bind ?_ (fun _ => ?_))
    | exact ih0 _ _ _ _ _ _ _ _ _ _ _
    | exact ih1 _ _ _ _ _ _
    | exact ih2 _ _ _ _ _ _
    | exact meter_Cut.mono _ _ _ _ _ _ _ _
    | exact meter_Weight.mono _ _ _ _ _ _
    | exact partitalaw05_Meter.mono _ _ _ _ _
    | exact partitalaw05_awake.mono _
    | exact partitalaw05_place.mono _ _ _ _ _ _
    | exact partitaref05_Ratios.mono _ _ _
    | exact LeO.none _
    | refine LeO.ite ?_ ?_
    | refine LeO.bind ?_ (fun _ => ?_)
theorem partitalaw05_MeterParts.mono : ∀ a0 a1 a2 a3 a4 a5 a6 a7 k, LeO (partitalaw05_MeterParts.f k a0 a1 a2 a3 a4 a5 a6 a7) (partitalaw05_MeterParts.f (k + 1) a0 a1 a2 a3 a4 a5 a6 a7) := by
 intro a0 a1 a2 a3 a4 a5 a6 a7 k
 obtain ⟨ih0, ih1, ih2⟩ := partitalaw05_MeterParts.mono_l k
 unfold partitalaw05_MeterParts.f
 repeat' first
  | (with_reducible exact ih0 _ _ _ _ _ _ _ _ _ _ _)
  | (with_reducible exact ih1 _ _ _ _ _ _)
  | (with_reducible exact ih2 _ _ _ _ _ _)
  | (with_reducible exact meter_Cut.mono _ _ _ _ _ _ _ _)
  | (with_reducible exact meter_Weight.mono _ _ _ _ _ _)
  | (with_reducible exact partitalaw05_Meter.mono _ _ _ _ _)
  | (with_reducible exact partitalaw05_awake.mono _)
  | (with_reducible exact partitalaw05_place.mono _ _ _ _ _ _)
  | (with_reducible exact partitaref05_Ratios.mono _ _ _)
  | (with_reducible exact LeO.refl _)
  | (with_reducible exact LeO.none _)
  | (with_reducible refine LeO.ite ?_ ?_)
  | (with_reducible refine LeO.bind ?_ (fun _ => ?_))
  | exact ih0 _ _ _ _ _ _ _ _ _ _ _
  | exact ih1 _ _ _ _ _ _
  | exact ih2 _ _ _ _ _ _
  | exact meter_Cut.mono _ _ _ _ _ _ _ _
  | exact meter_Weight.mono _ _ _ _ _ _
  | exact partitalaw05_Meter.mono _ _ _ _ _
  | exact partitalaw05_awake.mono _
  | exact partitalaw05_place.mono _ _ _ _ _ _
  | exact partitaref05_Ratios.mono _ _ _
  | exact LeO.none _
  | refine LeO.ite ?_ ?_
  | refine LeO.bind ?_ (fun _ => ?_)
def partitalaw05_MeterParts.T21 : Bool × List (List Nat × List Nat) := (true, [([], []), ([], []), ([1], [1]), ([2], [2]), ([0, 3], [0, 3]), ([4], [4]), ([], []), ([6], [6]), ([7], [7]), ([5, 8], [5, 8]), ([9], [9]), ([10], [10]), ([10], [10]), ([], []), ([13, 11, 9, 0, 1, 2, 3, 4, 5, 6, 7, 8, 9, 10, 11, 13], [11, 13]), ([12, 14, 0, 1, 2, 3, 4, 5, 6, 7, 8, 9, 10, 11, 12, 13, 14], [12])])
def partitalaw05_MeterParts.B21 : List Nat := [0, 0, 2, 6, 15, 31, 0, 64, 192, 511, 1023, 2047, 2047, 0, 12287, 32767]
theorem partitalaw05_MeterParts.tab21 : rtab .any (opsOf Try.f7 21) = partitalaw05_MeterParts.T21 := by kernel_rfl
theorem partitalaw05_MeterParts.bits21 : waitsOk partitalaw05_MeterParts.T21.2 partitalaw05_MeterParts.B21 = true := by kernel_rfl
def partitalaw05_MeterParts.T22 : Bool × List (List Nat × List Nat) := (true, [([], []), ([], []), ([1], [1]), ([2], [2]), ([0, 3], [0, 3]), ([4], [4]), ([], []), ([6], [6]), ([5, 7, 5], [5, 7]), ([8, 8, 0, 1, 2, 3, 4, 5, 6, 7, 8], [8])])
def partitalaw05_MeterParts.B22 : List Nat := [0, 0, 2, 6, 15, 31, 0, 64, 255, 511]
theorem partitalaw05_MeterParts.tab22 : rtab .any (opsOf Try.f7 22) = partitalaw05_MeterParts.T22 := by kernel_rfl
theorem partitalaw05_MeterParts.bits22 : waitsOk partitalaw05_MeterParts.T22.2 partitalaw05_MeterParts.B22 = true := by kernel_rfl
set_option maxHeartbeats 8000000 in
set_option maxRecDepth 100000 in
theorem partitalaw05_MeterParts.calls (k : Nat) (a0_0 : Int) (a0_1 : Int) (A0_2 : Option Addr) (c0_2 : Nat) (l0_2 : List Int) (a1 : Bool) (a2_0 : Int) (a2_1 : Int) (a2_2 : Int) (a3 : Int) (r : Bool) (w : World) (hr0_2 : Kd.C (Kd.int .i64) w A0_2 l0_2.length l0_2) (hc0_2 : l0_2.length ≤ c0_2) (h : partitalaw05_MeterParts.f k a0_0 a0_1 l0_2 a1 a2_0 a2_1 a2_2 a3 = some r) :
 Calls Try.prog 7 #[.agg #[.int .i64 a0_0, .int .i64 a0_1, .slice A0_2 l0_2.length c0_2], .bool a1, .agg #[.int .i64 a2_0, .int .i64 a2_1, .int .i64 a2_2], .int .i64 a3] w fun e w' => e = .returned (.bool r) ∧ Below w.heap.size w w' := by
 have hu24 := Try.underlying24
 have hu50 := Try.underlying50
 have hu26 := Try.underlying26
 have HR0_2 := Aside0.mk hr0_2
 have HC0_2 := Aside0.mk hc0_2
 clear hr0_2 hc0_2
 have HB := Aside0.mk (Below.refl w.heap.size w)
 have H : ((partitalaw05_awake.f k).bind fun t380 => ((partitalaw05_Meter.f k a0_0 a0_1 l0_2 a1).bind fun bt381 => ((partitalaw05_place.f k bt381.1 bt381.2.1 bt381.2.2 a2_0 a3).bind fun bt387 => ((partitalaw05_place.f k bt381.1 bt381.2.1 bt381.2.2 a2_1 a3).bind fun bt390 => ((partitalaw05_place.f k bt381.1 bt381.2.1 bt381.2.2 a2_2 a3).bind fun bt393 => ((ratio_Compare.f bt387.1 bt387.2 bt390.1 bt390.2).bind fun t396 => (if t396 ≥ 0 then (partitalaw05_MeterParts.j0 k t380 true bt381.1 bt381.2.1 bt381.2.2 bt387.1 bt387.2 bt390.1 bt390.2 bt393.1 bt393.2) else ((ratio_Compare.f bt390.1 bt390.2 bt393.1 bt393.2).bind fun t397 => (partitalaw05_MeterParts.j0 k t380 (decide (t397 ≥ 0)) bt381.1 bt381.2.1 bt381.2.2 bt387.1 bt387.2 bt390.1 bt390.2 bt393.1 bt393.2))))))))) = some r := h
 clear h
 replace H := Option.bind_eq_some_iff.mp H
 obtain ⟨t380, A50, H⟩ := H
 replace H : ((partitalaw05_Meter.f k a0_0 a0_1 l0_2 a1).bind fun bt381 => ((partitalaw05_place.f k bt381.1 bt381.2.1 bt381.2.2 a2_0 a3).bind fun bt387 => ((partitalaw05_place.f k bt381.1 bt381.2.1 bt381.2.2 a2_1 a3).bind fun bt390 => ((partitalaw05_place.f k bt381.1 bt381.2.1 bt381.2.2 a2_2 a3).bind fun bt393 => ((ratio_Compare.f bt387.1 bt387.2 bt390.1 bt390.2).bind fun t396 => (if t396 ≥ 0 then (partitalaw05_MeterParts.j0 k t380 true bt381.1 bt381.2.1 bt381.2.2 bt387.1 bt387.2 bt390.1 bt390.2 bt393.1 bt393.2) else ((ratio_Compare.f bt390.1 bt390.2 bt393.1 bt393.2).bind fun t397 => (partitalaw05_MeterParts.j0 k t380 (decide (t397 ≥ 0)) bt381.1 bt381.2.1 bt381.2.2 bt387.1 bt387.2 bt390.1 bt390.2 bt393.1 bt393.2)))))))) = some r := H
 have A5 := Aside0.mk A50
 clear A50
 replace H := Option.bind_eq_some_iff.mp H
 obtain ⟨⟨t381, t382, t383⟩, A60, H⟩ := H
 replace H : ((partitalaw05_place.f k t381 t382 t383 a2_0 a3).bind fun bt387 => ((partitalaw05_place.f k t381 t382 t383 a2_1 a3).bind fun bt390 => ((partitalaw05_place.f k t381 t382 t383 a2_2 a3).bind fun bt393 => ((ratio_Compare.f bt387.1 bt387.2 bt390.1 bt390.2).bind fun t396 => (if t396 ≥ 0 then (partitalaw05_MeterParts.j0 k t380 true t381 t382 t383 bt387.1 bt387.2 bt390.1 bt390.2 bt393.1 bt393.2) else ((ratio_Compare.f bt390.1 bt390.2 bt393.1 bt393.2).bind fun t397 => (partitalaw05_MeterParts.j0 k t380 (decide (t397 ≥ 0)) t381 t382 t383 bt387.1 bt387.2 bt390.1 bt390.2 bt393.1 bt393.2))))))) = some r := H
 have A6 := Aside0.mk A60
 clear A60
 replace H := Option.bind_eq_some_iff.mp H
 obtain ⟨⟨t387, t388⟩, A70, H⟩ := H
 replace H : ((partitalaw05_place.f k t381 t382 t383 a2_1 a3).bind fun bt390 => ((partitalaw05_place.f k t381 t382 t383 a2_2 a3).bind fun bt393 => ((ratio_Compare.f t387 t388 bt390.1 bt390.2).bind fun t396 => (if t396 ≥ 0 then (partitalaw05_MeterParts.j0 k t380 true t381 t382 t383 t387 t388 bt390.1 bt390.2 bt393.1 bt393.2) else ((ratio_Compare.f bt390.1 bt390.2 bt393.1 bt393.2).bind fun t397 => (partitalaw05_MeterParts.j0 k t380 (decide (t397 ≥ 0)) t381 t382 t383 t387 t388 bt390.1 bt390.2 bt393.1 bt393.2)))))) = some r := H
 have A7 := Aside0.mk A70
 clear A70
 replace H := Option.bind_eq_some_iff.mp H
 obtain ⟨⟨t390, t391⟩, A80, H⟩ := H
 replace H : ((partitalaw05_place.f k t381 t382 t383 a2_2 a3).bind fun bt393 => ((ratio_Compare.f t387 t388 t390 t391).bind fun t396 => (if t396 ≥ 0 then (partitalaw05_MeterParts.j0 k t380 true t381 t382 t383 t387 t388 t390 t391 bt393.1 bt393.2) else ((ratio_Compare.f t390 t391 bt393.1 bt393.2).bind fun t397 => (partitalaw05_MeterParts.j0 k t380 (decide (t397 ≥ 0)) t381 t382 t383 t387 t388 t390 t391 bt393.1 bt393.2))))) = some r := H
 have A8 := Aside0.mk A80
 clear A80
 replace H := Option.bind_eq_some_iff.mp H
 obtain ⟨⟨t393, t394⟩, A90, H⟩ := H
 replace H : ((ratio_Compare.f t387 t388 t390 t391).bind fun t396 => (if t396 ≥ 0 then (partitalaw05_MeterParts.j0 k t380 true t381 t382 t383 t387 t388 t390 t391 t393 t394) else ((ratio_Compare.f t390 t391 t393 t394).bind fun t397 => (partitalaw05_MeterParts.j0 k t380 (decide (t397 ≥ 0)) t381 t382 t383 t387 t388 t390 t391 t393 t394)))) = some r := H
 have A9 := Aside0.mk A90
 clear A90
 have HC10 := Aside0.mk H
 clear H
 go_enter Try.func7, Try.ntmps7
 go_upto_region 6 with (first | ((with_reducible refine gate_dst (N := 4) rfl ?_); (try (refine gate_guard (by rfl) ?_; dsimp only)); refine box_event ?hg (N := 4) ?hd (cs := #[.int .i64 a0_0, .int .i64 a0_1, .slice A0_2 l0_2.length c0_2]) (t := 24) ?hr ?_; (case hd => rfl); (case hg => rfl); (case hr => first | (go_simp; done) | (go_simp; rfl)); intro gb378 hg w11 hbox hb; have BK378 := Aside0.mk (hbox); have GW378 := qT HB hg; have GE378 := qS HB hg; replace HB := Aside0.mk (below_step (qW HB.out) hb); clear hb hbox hg) | ((with_reducible refine gate_dst (N := 6) rfl ?_); (try (refine gate_guard (by rfl) ?_; dsimp only)); refine box_event ?hg (N := 6) ?hd (cs := #[.int .i64 a2_0, .int .i64 a2_1, .int .i64 a2_2]) (t := 50) ?hr ?_; (case hd => rfl); (case hg => rfl); (case hr => first | (go_simp; done) | (go_simp; rfl)); intro gb379 hg w12 hbox hb; have BK379 := Aside0.mk (hbox); have GW379 := qT HB hg; have GE379 := qS HB hg; replace HB := Aside0.mk (below_step (qW HB.out) hb); have NB378_379 := qL BK378 hg; have NB379_378 := qM BK378 hg; replace BK378 := qD BK378 hb; clear hb hbox hg) | ((with_reducible refine gate_callee (f := 10) rfl ?_); refine goesL_ (some 31) rfl rfl Try.func10 (by kernel_rfl) rfl #[] rfl (by (try simp only [List.map_toArray, List.map_cons, List.map_nil]); first | done | rfl | (simp only [List.length_drop, List.length_take]; rfl)) ?_; (with_reducible refine (partitalaw05_awake.calls k  t380 _ A5.out).mono ?_); rintro e w13 ⟨rfl, hb⟩; refine ⟨_, rfl, ?_⟩; replace BK378 := qD BK378 hb; replace BK379 := qD BK379 hb; replace HB := Aside0.mk (below_step (qW HB.out) hb); (try clear hb); (try clear hb2); (try clear hk); (try clear hi); have hnb14 := NB378_379.out; have hnc14 := NB379_378.out; have hcz15_0 := qC BK378 0 rfl; have hcz15_1 := qC BK378 1 rfl; have hcz15_2 := qC BK378 2 rfl; have hfz15_0 := blk_frozen BK378.out 0; have hfz15_1 := blk_frozen BK378.out 1; have hfz15_2 := blk_frozen BK378.out 2) | ((with_reducible refine gate_callee (f := 11) rfl ?_); refine goesL_ (some 34) rfl rfl Try.func11 (by kernel_rfl) rfl #[.agg #[.int .i64 a0_0, .int .i64 a0_1, .slice A0_2 l0_2.length c0_2], .bool a1] rfl (by (try simp only [List.map_toArray, List.map_cons, List.map_nil]); first | done | rfl | (simp only [List.length_drop, List.length_take]; rfl)) ?_; (with_reducible refine (partitalaw05_Meter.calls k a0_0 a0_1 _ _ l0_2 a1 t381 t382 t383 _ ?side1 ?side2 A6.out).mono ?_); (case side1 => repeat (first | exact (Kd.C_below HR0_2.out HB.out) | (with_reducible refine Kd.C_alloc ?_ _) | (with_reducible refine Kd.C_drewN ?_ _) | (with_reducible refine Kd.C_drew ?_))); (case side2 => exact HC0_2.out); rintro e w16 ⟨v384, rfl, ho0, hb⟩; refine ⟨_, rfl, ?_⟩; have HO385 := Aside0.mk (Kd.R_lower ho0 (below_size (qW HB.out))); replace BK378 := qD BK378 hb; replace BK379 := qD BK379 hb; replace HB := Aside0.mk (below_step (qW HB.out) hb); (try clear hb); (try clear hb2); (try clear hk); (try clear hi); (try clear ho0)) | ((with_reducible refine gate_dst (N := 10) rfl ?_); (try (refine gate_guard (by rfl) ?_; dsimp only)); refine box_event ?hg (N := 10) ?hd (cs := #[.int .i64 0, .int .i64 0, .slice none 0 0]) (t := 24) ?hr ?_; (case hd => rfl); (case hg => rfl); (case hr => first | (go_simp; done) | (go_simp; rfl)); intro gb386 hg w17 hbox hb; replace HO385 := qE HO385 hb; have BK386 := Aside0.mk (hbox); have GW386 := qT HB hg; have GE386 := qS HB hg; replace HB := Aside0.mk (below_step (qW HB.out) hb); have NB378_386 := qL BK378 hg; have NB386_378 := qM BK378 hg; replace BK378 := qD BK378 hb; have NB379_386 := qL BK379 hg; have NB386_379 := qM BK379 hg; replace BK379 := qD BK379 hb; clear hb hbox hg; have hnb18 := NB386_378.out; have hnc18 := NB378_386.out; have hnb19 := NB386_379.out; have hnc19 := NB379_386.out; have hcz20_0 := qC BK386 0 rfl; have hcz20_1 := qC BK386 1 rfl; have hcz20_2 := qC BK386 2 rfl; have hfz20_0 := blk_frozen BK386.out 0; have hfz20_1 := blk_frozen BK386.out 1; have hfz20_2 := blk_frozen BK386.out 2; obtain ⟨Ao21, co21, eo21⟩ := Kd.R_slice HO385.out; subst eo21; have hcz22_0 := qC BK379 0 rfl; have hcz22_1 := qC BK379 1 rfl; have hcz22_2 := qC BK379 2 rfl; have hfz22_0 := blk_frozen BK379.out 0; have hfz22_1 := blk_frozen BK379.out 1; have hfz22_2 := blk_frozen BK379.out 2) | ((with_reducible refine gate_callee (f := 21) rfl ?_); refine goesL_ (some 39) rfl rfl Try.func21 (by kernel_rfl) rfl #[.agg #[.int .i64 t381, .int .i64 t382, .slice Ao21 t383.length co21], .int .i64 a2_0, .int .i64 a3] rfl (by (try simp only [List.map_toArray, List.map_cons, List.map_nil]); first | done | rfl | (simp only [List.length_drop, List.length_take]; rfl)) ?_; (with_reducible refine (partitalaw05_place.calls k t381 t382 _ _ t383 a2_0 a3 t387 t388 _ ?side1 ?side2 A7.out).mono ?_); (case side1 => refine (Kd.R_reads' (e := 3) (base := w.heap.size) (ok := fun k_ => True) (n := t383.length) (c := co21) ?_).2.2; exact (qR ((Kd.R_mono (Kd.R_far (p := ⟨gb386, 2, none⟩) (Kd.R_far (p := ⟨gb386, 1, none⟩) (Kd.R_far (p := ⟨gb386, 0, none⟩) (Kd.R_types HO385.out BK386.out (by decide)) (fun _ hk => hk.2) (.int .i64 t381)) (fun _ hk => hk.2) (.int .i64 t382)) (fun _ hk => hk.2) (.slice Ao21 t383.length co21)) (fun _ h_ => h_.1))))); (case side2 => exact (Kd.R_reads' HO385.out).2.1); rintro e w23 ⟨rfl, hb⟩; refine ⟨_, rfl, ?_⟩; replace HO385 := Aside0.mk (Kd.R_below (qR ((Kd.R_mono (Kd.R_far (p := ⟨gb386, 2, none⟩) (Kd.R_far (p := ⟨gb386, 1, none⟩) (Kd.R_far (p := ⟨gb386, 0, none⟩) (Kd.R_types HO385.out BK386.out (by decide)) (fun _ hk => hk.2) (.int .i64 t381)) (fun _ hk => hk.2) (.int .i64 t382)) (fun _ hk => hk.2) (.slice Ao21 t383.length co21)) (fun _ h_ => h_.1)))) hb); replace BK378 := Aside0.mk (blk_below (g := gb378) (o := .cells #[.int .i64 a0_0, .int .i64 a0_1, .slice A0_2 l0_2.length c0_2] 24 (0, 0)) (by (with_reducible repeat (first | refine blk_drewN ?_ _ | refine blk_drew ?_ | refine blk_alloc ?_ _)); refine blk_far ?_ NB378_386.out _; (with_reducible repeat (first | refine blk_drewN ?_ _ | refine blk_drew ?_ | refine blk_alloc ?_ _)); refine blk_far ?_ NB378_386.out _; (with_reducible repeat (first | refine blk_drewN ?_ _ | refine blk_drew ?_ | refine blk_alloc ?_ _)); refine blk_far ?_ NB378_386.out _; (with_reducible repeat (first | refine blk_drewN ?_ _ | refine blk_drew ?_ | refine blk_alloc ?_ _)); exact BK378.out) hb); replace BK379 := Aside0.mk (blk_below (g := gb379) (o := .cells #[.int .i64 a2_0, .int .i64 a2_1, .int .i64 a2_2] 50 (0, 0)) (by (with_reducible repeat (first | refine blk_drewN ?_ _ | refine blk_drew ?_ | refine blk_alloc ?_ _)); refine blk_far ?_ NB379_386.out _; (with_reducible repeat (first | refine blk_drewN ?_ _ | refine blk_drew ?_ | refine blk_alloc ?_ _)); refine blk_far ?_ NB379_386.out _; (with_reducible repeat (first | refine blk_drewN ?_ _ | refine blk_drew ?_ | refine blk_alloc ?_ _)); refine blk_far ?_ NB379_386.out _; (with_reducible repeat (first | refine blk_drewN ?_ _ | refine blk_drew ?_ | refine blk_alloc ?_ _)); exact BK379.out) hb); replace BK386 := Aside0.mk (blk_below (g := gb386) (o := .cells #[.int .i64 t381, .int .i64 t382, .slice Ao21 t383.length co21] 24 (0, 0)) (by (with_reducible repeat (first | refine blk_drewN ?_ _ | refine blk_drew ?_ | refine blk_alloc ?_ _)); refine blk_put (cs := #[.int .i64 t381, .int .i64 t382, .slice none 0 0]) ?_ 2 _ rfl; (with_reducible repeat (first | refine blk_drewN ?_ _ | refine blk_drew ?_ | refine blk_alloc ?_ _)); refine blk_put (cs := #[.int .i64 t381, .int .i64 0, .slice none 0 0]) ?_ 1 _ rfl; (with_reducible repeat (first | refine blk_drewN ?_ _ | refine blk_drew ?_ | refine blk_alloc ?_ _)); refine blk_put (cs := #[.int .i64 0, .int .i64 0, .slice none 0 0]) ?_ 0 _ rfl; (with_reducible repeat (first | refine blk_drewN ?_ _ | refine blk_drew ?_ | refine blk_alloc ?_ _)); exact BK386.out) hb); replace HB := Aside0.mk (below_step (qW HB.out) hb); (try clear hb); (try clear hb2); (try clear hk); (try clear hi)) | ((with_reducible refine gate_dst (N := 11) rfl ?_); (try (refine gate_guard (by rfl) ?_; dsimp only)); refine box_event ?hg (N := 11) ?hd (cs := #[.int .i64 0, .int .i64 0]) (t := 26) ?hr ?_; (case hd => rfl); (case hg => rfl); (case hr => first | (go_simp; done) | (go_simp; rfl)); intro gb389 hg w24 hbox hb; replace HO385 := qE HO385 hb; have BK389 := Aside0.mk (hbox); have GW389 := qT HB hg; have GE389 := qS HB hg; replace HB := Aside0.mk (below_step (qW HB.out) hb); have NB378_389 := qL BK378 hg; have NB389_378 := qM BK378 hg; replace BK378 := qD BK378 hb; have NB379_389 := qL BK379 hg; have NB389_379 := qM BK379 hg; replace BK379 := qD BK379 hb; have NB386_389 := qL BK386 hg; have NB389_386 := qM BK386 hg; replace BK386 := qD BK386 hb; clear hb hbox hg; have hnb25 := NB389_378.out; have hnc25 := NB378_389.out; have hnb26 := NB389_379.out; have hnc26 := NB379_389.out; have hnb27 := NB389_386.out; have hnc27 := NB386_389.out; have hcz28_0 := qC BK389 0 rfl; have hcz28_1 := qC BK389 1 rfl; have hfz28_0 := blk_frozen BK389.out 0; have hfz28_1 := blk_frozen BK389.out 1; have hcz29_0 := qC BK386 0 rfl; have hcz29_1 := qC BK386 1 rfl; have hcz29_2 := qC BK386 2 rfl; have hfz29_0 := blk_frozen BK386.out 0; have hfz29_1 := blk_frozen BK386.out 1; have hfz29_2 := blk_frozen BK386.out 2; have hcz30_0 := qC BK379 0 rfl; have hcz30_1 := qC BK379 1 rfl; have hcz30_2 := qC BK379 2 rfl; have hfz30_0 := blk_frozen BK379.out 0; have hfz30_1 := blk_frozen BK379.out 1; have hfz30_2 := blk_frozen BK379.out 2) | ((with_reducible refine gate_callee (f := 21) rfl ?_); refine goesL_ (some 44) rfl rfl Try.func21 (by kernel_rfl) rfl #[.agg #[.int .i64 t381, .int .i64 t382, .slice Ao21 t383.length co21], .int .i64 a2_1, .int .i64 a3] rfl (by (try simp only [List.map_toArray, List.map_cons, List.map_nil]); first | done | rfl | (simp only [List.length_drop, List.length_take]; rfl)) ?_; (with_reducible refine (partitalaw05_place.calls k t381 t382 _ _ t383 a2_1 a3 t390 t391 _ ?side1 ?side2 A8.out).mono ?_); (case side1 => refine (Kd.R_reads' (e := 3) (base := w.heap.size) (ok := fun k_ => True) (n := t383.length) (c := co21) ?_).2.2; exact (qR ((Kd.R_mono (Kd.R_far (p := ⟨gb389, 1, none⟩) (Kd.R_far (p := ⟨gb389, 0, none⟩) (Kd.R_types HO385.out BK389.out (by decide)) (fun _ hk => hk.2) (.int .i64 t387)) (fun _ hk => hk.2) (.int .i64 t388)) (fun _ h_ => h_.1))))); (case side2 => exact (Kd.R_reads' HO385.out).2.1); rintro e w31 ⟨rfl, hb⟩; refine ⟨_, rfl, ?_⟩; replace HO385 := Aside0.mk (Kd.R_below (qR ((Kd.R_mono (Kd.R_far (p := ⟨gb389, 1, none⟩) (Kd.R_far (p := ⟨gb389, 0, none⟩) (Kd.R_types HO385.out BK389.out (by decide)) (fun _ hk => hk.2) (.int .i64 t387)) (fun _ hk => hk.2) (.int .i64 t388)) (fun _ h_ => h_.1)))) hb); replace BK378 := Aside0.mk (blk_below (g := gb378) (o := .cells #[.int .i64 a0_0, .int .i64 a0_1, .slice A0_2 l0_2.length c0_2] 24 (0, 0)) (by (with_reducible repeat (first | refine blk_drewN ?_ _ | refine blk_drew ?_ | refine blk_alloc ?_ _)); refine blk_far ?_ NB378_389.out _; (with_reducible repeat (first | refine blk_drewN ?_ _ | refine blk_drew ?_ | refine blk_alloc ?_ _)); refine blk_far ?_ NB378_389.out _; (with_reducible repeat (first | refine blk_drewN ?_ _ | refine blk_drew ?_ | refine blk_alloc ?_ _)); exact BK378.out) hb); replace BK379 := Aside0.mk (blk_below (g := gb379) (o := .cells #[.int .i64 a2_0, .int .i64 a2_1, .int .i64 a2_2] 50 (0, 0)) (by (with_reducible repeat (first | refine blk_drewN ?_ _ | refine blk_drew ?_ | refine blk_alloc ?_ _)); refine blk_far ?_ NB379_389.out _; (with_reducible repeat (first | refine blk_drewN ?_ _ | refine blk_drew ?_ | refine blk_alloc ?_ _)); refine blk_far ?_ NB379_389.out _; (with_reducible repeat (first | refine blk_drewN ?_ _ | refine blk_drew ?_ | refine blk_alloc ?_ _)); exact BK379.out) hb); replace BK386 := Aside0.mk (blk_below (g := gb386) (o := .cells #[.int .i64 t381, .int .i64 t382, .slice Ao21 t383.length co21] 24 (0, 0)) (by (with_reducible repeat (first | refine blk_drewN ?_ _ | refine blk_drew ?_ | refine blk_alloc ?_ _)); refine blk_far ?_ NB386_389.out _; (with_reducible repeat (first | refine blk_drewN ?_ _ | refine blk_drew ?_ | refine blk_alloc ?_ _)); refine blk_far ?_ NB386_389.out _; (with_reducible repeat (first | refine blk_drewN ?_ _ | refine blk_drew ?_ | refine blk_alloc ?_ _)); exact BK386.out) hb); replace BK389 := Aside0.mk (blk_below (g := gb389) (o := .cells #[.int .i64 t387, .int .i64 t388] 26 (0, 0)) (by (with_reducible repeat (first | refine blk_drewN ?_ _ | refine blk_drew ?_ | refine blk_alloc ?_ _)); refine blk_put (cs := #[.int .i64 t387, .int .i64 0]) ?_ 1 _ rfl; (with_reducible repeat (first | refine blk_drewN ?_ _ | refine blk_drew ?_ | refine blk_alloc ?_ _)); refine blk_put (cs := #[.int .i64 0, .int .i64 0]) ?_ 0 _ rfl; (with_reducible repeat (first | refine blk_drewN ?_ _ | refine blk_drew ?_ | refine blk_alloc ?_ _)); exact BK389.out) hb); replace HB := Aside0.mk (below_step (qW HB.out) hb); (try clear hb); (try clear hb2); (try clear hk); (try clear hi)) | ((with_reducible refine gate_dst (N := 12) rfl ?_); (try (refine gate_guard (by rfl) ?_; dsimp only)); refine box_event ?hg (N := 12) ?hd (cs := #[.int .i64 0, .int .i64 0]) (t := 26) ?hr ?_; (case hd => rfl); (case hg => rfl); (case hr => first | (go_simp; done) | (go_simp; rfl)); intro gb392 hg w32 hbox hb; replace HO385 := qE HO385 hb; have BK392 := Aside0.mk (hbox); have GW392 := qT HB hg; have GE392 := qS HB hg; replace HB := Aside0.mk (below_step (qW HB.out) hb); have NB378_392 := qL BK378 hg; have NB392_378 := qM BK378 hg; replace BK378 := qD BK378 hb; have NB379_392 := qL BK379 hg; have NB392_379 := qM BK379 hg; replace BK379 := qD BK379 hb; have NB386_392 := qL BK386 hg; have NB392_386 := qM BK386 hg; replace BK386 := qD BK386 hb; have NB389_392 := qL BK389 hg; have NB392_389 := qM BK389 hg; replace BK389 := qD BK389 hb; clear hb hbox hg; have hnb33 := NB392_378.out; have hnc33 := NB378_392.out; have hnb34 := NB392_379.out; have hnc34 := NB379_392.out; have hnb35 := NB392_386.out; have hnc35 := NB386_392.out; have hnb36 := NB392_389.out; have hnc36 := NB389_392.out; have hcz37_0 := qC BK392 0 rfl; have hcz37_1 := qC BK392 1 rfl; have hfz37_0 := blk_frozen BK392.out 0; have hfz37_1 := blk_frozen BK392.out 1; have hcz38_0 := qC BK386 0 rfl; have hcz38_1 := qC BK386 1 rfl; have hcz38_2 := qC BK386 2 rfl; have hfz38_0 := blk_frozen BK386.out 0; have hfz38_1 := blk_frozen BK386.out 1; have hfz38_2 := blk_frozen BK386.out 2; have hcz39_0 := qC BK379 0 rfl; have hcz39_1 := qC BK379 1 rfl; have hcz39_2 := qC BK379 2 rfl; have hfz39_0 := blk_frozen BK379.out 0; have hfz39_1 := blk_frozen BK379.out 1; have hfz39_2 := blk_frozen BK379.out 2) | ((with_reducible refine gate_callee (f := 21) rfl ?_); refine goesL_ (some 49) rfl rfl Try.func21 (by kernel_rfl) rfl #[.agg #[.int .i64 t381, .int .i64 t382, .slice Ao21 t383.length co21], .int .i64 a2_2, .int .i64 a3] rfl (by (try simp only [List.map_toArray, List.map_cons, List.map_nil]); first | done | rfl | (simp only [List.length_drop, List.length_take]; rfl)) ?_; (with_reducible refine (partitalaw05_place.calls k t381 t382 _ _ t383 a2_2 a3 t393 t394 _ ?side1 ?side2 A9.out).mono ?_); (case side1 => refine (Kd.R_reads' (e := 3) (base := w.heap.size) (ok := fun k_ => True) (n := t383.length) (c := co21) ?_).2.2; exact (qR ((Kd.R_mono (Kd.R_far (p := ⟨gb392, 1, none⟩) (Kd.R_far (p := ⟨gb392, 0, none⟩) (Kd.R_types HO385.out BK392.out (by decide)) (fun _ hk => hk.2) (.int .i64 t390)) (fun _ hk => hk.2) (.int .i64 t391)) (fun _ h_ => h_.1))))); (case side2 => exact (Kd.R_reads' HO385.out).2.1); rintro e w40 ⟨rfl, hb⟩; refine ⟨_, rfl, ?_⟩; replace HO385 := Aside0.mk (Kd.R_below (qR ((Kd.R_mono (Kd.R_far (p := ⟨gb392, 1, none⟩) (Kd.R_far (p := ⟨gb392, 0, none⟩) (Kd.R_types HO385.out BK392.out (by decide)) (fun _ hk => hk.2) (.int .i64 t390)) (fun _ hk => hk.2) (.int .i64 t391)) (fun _ h_ => h_.1)))) hb); replace BK378 := Aside0.mk (blk_below (g := gb378) (o := .cells #[.int .i64 a0_0, .int .i64 a0_1, .slice A0_2 l0_2.length c0_2] 24 (0, 0)) (by (with_reducible repeat (first | refine blk_drewN ?_ _ | refine blk_drew ?_ | refine blk_alloc ?_ _)); refine blk_far ?_ NB378_392.out _; (with_reducible repeat (first | refine blk_drewN ?_ _ | refine blk_drew ?_ | refine blk_alloc ?_ _)); refine blk_far ?_ NB378_392.out _; (with_reducible repeat (first | refine blk_drewN ?_ _ | refine blk_drew ?_ | refine blk_alloc ?_ _)); exact BK378.out) hb); replace BK379 := Aside0.mk (blk_below (g := gb379) (o := .cells #[.int .i64 a2_0, .int .i64 a2_1, .int .i64 a2_2] 50 (0, 0)) (by (with_reducible repeat (first | refine blk_drewN ?_ _ | refine blk_drew ?_ | refine blk_alloc ?_ _)); refine blk_far ?_ NB379_392.out _; (with_reducible repeat (first | refine blk_drewN ?_ _ | refine blk_drew ?_ | refine blk_alloc ?_ _)); refine blk_far ?_ NB379_392.out _; (with_reducible repeat (first | refine blk_drewN ?_ _ | refine blk_drew ?_ | refine blk_alloc ?_ _)); exact BK379.out) hb); replace BK386 := Aside0.mk (blk_below (g := gb386) (o := .cells #[.int .i64 t381, .int .i64 t382, .slice Ao21 t383.length co21] 24 (0, 0)) (by (with_reducible repeat (first | refine blk_drewN ?_ _ | refine blk_drew ?_ | refine blk_alloc ?_ _)); refine blk_far ?_ NB386_392.out _; (with_reducible repeat (first | refine blk_drewN ?_ _ | refine blk_drew ?_ | refine blk_alloc ?_ _)); refine blk_far ?_ NB386_392.out _; (with_reducible repeat (first | refine blk_drewN ?_ _ | refine blk_drew ?_ | refine blk_alloc ?_ _)); exact BK386.out) hb); replace BK389 := Aside0.mk (blk_below (g := gb389) (o := .cells #[.int .i64 t387, .int .i64 t388] 26 (0, 0)) (by (with_reducible repeat (first | refine blk_drewN ?_ _ | refine blk_drew ?_ | refine blk_alloc ?_ _)); refine blk_far ?_ NB389_392.out _; (with_reducible repeat (first | refine blk_drewN ?_ _ | refine blk_drew ?_ | refine blk_alloc ?_ _)); refine blk_far ?_ NB389_392.out _; (with_reducible repeat (first | refine blk_drewN ?_ _ | refine blk_drew ?_ | refine blk_alloc ?_ _)); exact BK389.out) hb); replace BK392 := Aside0.mk (blk_below (g := gb392) (o := .cells #[.int .i64 t390, .int .i64 t391] 26 (0, 0)) (by (with_reducible repeat (first | refine blk_drewN ?_ _ | refine blk_drew ?_ | refine blk_alloc ?_ _)); refine blk_put (cs := #[.int .i64 t390, .int .i64 0]) ?_ 1 _ rfl; (with_reducible repeat (first | refine blk_drewN ?_ _ | refine blk_drew ?_ | refine blk_alloc ?_ _)); refine blk_put (cs := #[.int .i64 0, .int .i64 0]) ?_ 0 _ rfl; (with_reducible repeat (first | refine blk_drewN ?_ _ | refine blk_drew ?_ | refine blk_alloc ?_ _)); exact BK392.out) hb); replace HB := Aside0.mk (below_step (qW HB.out) hb); (try clear hb); (try clear hb2); (try clear hk); (try clear hi)) | ((with_reducible refine gate_dst (N := 13) rfl ?_); (try (refine gate_guard (by rfl) ?_; dsimp only)); refine box_event ?hg (N := 13) ?hd (cs := #[.int .i64 0, .int .i64 0]) (t := 26) ?hr ?_; (case hd => rfl); (case hg => rfl); (case hr => first | (go_simp; done) | (go_simp; rfl)); intro gb395 hg w41 hbox hb; replace HO385 := qE HO385 hb; have BK395 := Aside0.mk (hbox); have GW395 := qT HB hg; have GE395 := qS HB hg; replace HB := Aside0.mk (below_step (qW HB.out) hb); have NB378_395 := qL BK378 hg; have NB395_378 := qM BK378 hg; replace BK378 := qD BK378 hb; have NB379_395 := qL BK379 hg; have NB395_379 := qM BK379 hg; replace BK379 := qD BK379 hb; have NB386_395 := qL BK386 hg; have NB395_386 := qM BK386 hg; replace BK386 := qD BK386 hb; have NB389_395 := qL BK389 hg; have NB395_389 := qM BK389 hg; replace BK389 := qD BK389 hb; have NB392_395 := qL BK392 hg; have NB395_392 := qM BK392 hg; replace BK392 := qD BK392 hb; clear hb hbox hg; have hnb42 := NB395_378.out; have hnc42 := NB378_395.out; have hnb43 := NB395_379.out; have hnc43 := NB379_395.out; have hnb44 := NB395_386.out; have hnc44 := NB386_395.out; have hnb45 := NB395_389.out; have hnc45 := NB389_395.out; have hnb46 := NB395_392.out; have hnc46 := NB392_395.out; have hcz47_0 := qC BK395 0 rfl; have hcz47_1 := qC BK395 1 rfl; have hfz47_0 := blk_frozen BK395.out 0; have hfz47_1 := blk_frozen BK395.out 1))
 (try simp only [Act.put, qa_, qz_, qs_])
 go_cut [59] (fun v59 wc => ∃ (kq : Nat) (x59_9 : Bool), v59 = .bool x59_9 ∧ Aside0 (partitalaw05_MeterParts.j0 kq t380 x59_9 t381 t382 t383 t387 t388 t390 t391 t393 t394 = some r) ∧ Aside0 (kq ≤ k) ∧ Aside0 (Kd.R (Kd.int .i64) 3 wc w.heap.size (fun _ => True) (.slice Ao21 t383.length co21) t383) ∧ Aside0 (wc.heap[gb378]? = some (.cells #[.int .i64 a0_0, .int .i64 a0_1, (.slice A0_2 l0_2.length c0_2)] 24 (0, 0))) ∧ Aside0 (wc.heap[gb379]? = some (.cells #[.int .i64 a2_0, .int .i64 a2_1, .int .i64 a2_2] 50 (0, 0))) ∧ Aside0 (wc.heap[gb386]? = some (.cells #[.int .i64 t381, .int .i64 t382, (.slice Ao21 t383.length co21)] 24 (0, 0))) ∧ Aside0 (wc.heap[gb389]? = some (.cells #[.int .i64 t387, .int .i64 t388] 26 (0, 0))) ∧ Aside0 (wc.heap[gb392]? = some (.cells #[.int .i64 t390, .int .i64 t391] 26 (0, 0))) ∧ Aside0 (wc.heap[gb395]? = some (.cells #[.int .i64 t393, .int .i64 t394] 26 (0, 0))) ∧ Aside0 (Below w.heap.size w wc))
 case first =>
  have H := HC10.out
  clear HC10
  replace H := Option.bind_eq_some_iff.mp H
  obtain ⟨t396, A480, H⟩ := H
  replace H : (if t396 ≥ 0 then (partitalaw05_MeterParts.j0 k t380 true t381 t382 t383 t387 t388 t390 t391 t393 t394) else ((ratio_Compare.f t390 t391 t393 t394).bind fun t397 => (partitalaw05_MeterParts.j0 k t380 (decide (t397 ≥ 0)) t381 t382 t383 t387 t388 t390 t391 t393 t394))) = some r := H
  have A48 := Aside0.mk A480
  clear A480
  by_cases c49 : t396 ≥ 0
  · rw [if_pos c49] at H
    have c49b0 : decide (0 ≤ t396) = true := decide_eq_true c49
    clear c49
    (first | rw [c49b0] | (simp only [i64_w, i32_w]; rw [c49b0]) | skip)
    have H' := Aside0.mk H
    clear H
    have hnb50 := NB389_378.out
    have hnc50 := NB378_389.out
    have hnb51 := NB389_379.out
    have hnc51 := NB379_389.out
    have hnb52 := NB389_386.out
    have hnc52 := NB386_389.out
    have hnb53 := NB389_392.out
    have hnc53 := NB392_389.out
    have hnb54 := NB389_395.out
    have hnc54 := NB395_389.out
    have hcz55_0 := qC BK389 0 rfl
    have hcz55_1 := qC BK389 1 rfl
    have hfz55_0 := blk_frozen BK389.out 0
    have hfz55_1 := blk_frozen BK389.out 1
    have hnb56 := NB392_378.out
    have hnc56 := NB378_392.out
    have hnb57 := NB392_379.out
    have hnc57 := NB379_392.out
    have hnb58 := NB392_386.out
    have hnc58 := NB386_392.out
    have hnb59 := NB392_395.out
    have hnc59 := NB395_392.out
    have hcz60_0 := qC BK392 0 rfl
    have hcz60_1 := qC BK392 1 rfl
    have hfz60_0 := blk_frozen BK392.out 0
    have hfz60_1 := blk_frozen BK392.out 1
    go_wp2_with (first | ((with_reducible refine gate_callee (f := 31) rfl ?_); refine goesL_ (some 52) rfl rfl Try.func31 (by kernel_rfl) rfl #[.agg #[.int .i64 t387, .int .i64 t388], .agg #[.int .i64 t390, .int .i64 t391]] rfl (by (try simp only [List.map_toArray, List.map_cons, List.map_nil]); first | done | rfl | (simp only [List.length_drop, List.length_take]; rfl)) ?_; (with_reducible refine (ratio_Compare.calls t387 t388 t390 t391 t396 _ A48.out).mono ?_); rintro e w61 ⟨rfl, hb⟩; refine ⟨_, rfl, ?_⟩; replace HO385 := Aside0.mk (Kd.R_below (qR ((Kd.R_mono (Kd.R_far (p := ⟨gb395, 1, none⟩) (Kd.R_far (p := ⟨gb395, 0, none⟩) (Kd.R_types HO385.out BK395.out (by decide)) (fun _ hk => hk.2) (.int .i64 t393)) (fun _ hk => hk.2) (.int .i64 t394)) (fun _ h_ => h_.1)))) hb); replace BK378 := Aside0.mk (blk_below (g := gb378) (o := .cells #[.int .i64 a0_0, .int .i64 a0_1, .slice A0_2 l0_2.length c0_2] 24 (0, 0)) (by (with_reducible repeat (first | refine blk_drewN ?_ _ | refine blk_drew ?_ | refine blk_alloc ?_ _)); refine blk_far ?_ NB378_395.out _; (with_reducible repeat (first | refine blk_drewN ?_ _ | refine blk_drew ?_ | refine blk_alloc ?_ _)); refine blk_far ?_ NB378_395.out _; (with_reducible repeat (first | refine blk_drewN ?_ _ | refine blk_drew ?_ | refine blk_alloc ?_ _)); exact BK378.out) hb); replace BK379 := Aside0.mk (blk_below (g := gb379) (o := .cells #[.int .i64 a2_0, .int .i64 a2_1, .int .i64 a2_2] 50 (0, 0)) (by (with_reducible repeat (first | refine blk_drewN ?_ _ | refine blk_drew ?_ | refine blk_alloc ?_ _)); refine blk_far ?_ NB379_395.out _; (with_reducible repeat (first | refine blk_drewN ?_ _ | refine blk_drew ?_ | refine blk_alloc ?_ _)); refine blk_far ?_ NB379_395.out _; (with_reducible repeat (first | refine blk_drewN ?_ _ | refine blk_drew ?_ | refine blk_alloc ?_ _)); exact BK379.out) hb); replace BK386 := Aside0.mk (blk_below (g := gb386) (o := .cells #[.int .i64 t381, .int .i64 t382, .slice Ao21 t383.length co21] 24 (0, 0)) (by (with_reducible repeat (first | refine blk_drewN ?_ _ | refine blk_drew ?_ | refine blk_alloc ?_ _)); refine blk_far ?_ NB386_395.out _; (with_reducible repeat (first | refine blk_drewN ?_ _ | refine blk_drew ?_ | refine blk_alloc ?_ _)); refine blk_far ?_ NB386_395.out _; (with_reducible repeat (first | refine blk_drewN ?_ _ | refine blk_drew ?_ | refine blk_alloc ?_ _)); exact BK386.out) hb); replace BK389 := Aside0.mk (blk_below (g := gb389) (o := .cells #[.int .i64 t387, .int .i64 t388] 26 (0, 0)) (by (with_reducible repeat (first | refine blk_drewN ?_ _ | refine blk_drew ?_ | refine blk_alloc ?_ _)); refine blk_far ?_ NB389_395.out _; (with_reducible repeat (first | refine blk_drewN ?_ _ | refine blk_drew ?_ | refine blk_alloc ?_ _)); refine blk_far ?_ NB389_395.out _; (with_reducible repeat (first | refine blk_drewN ?_ _ | refine blk_drew ?_ | refine blk_alloc ?_ _)); exact BK389.out) hb); replace BK392 := Aside0.mk (blk_below (g := gb392) (o := .cells #[.int .i64 t390, .int .i64 t391] 26 (0, 0)) (by (with_reducible repeat (first | refine blk_drewN ?_ _ | refine blk_drew ?_ | refine blk_alloc ?_ _)); refine blk_far ?_ NB392_395.out _; (with_reducible repeat (first | refine blk_drewN ?_ _ | refine blk_drew ?_ | refine blk_alloc ?_ _)); refine blk_far ?_ NB392_395.out _; (with_reducible repeat (first | refine blk_drewN ?_ _ | refine blk_drew ?_ | refine blk_alloc ?_ _)); exact BK392.out) hb); replace BK395 := Aside0.mk (blk_below (g := gb395) (o := .cells #[.int .i64 t393, .int .i64 t394] 26 (0, 0)) (by (with_reducible repeat (first | refine blk_drewN ?_ _ | refine blk_drew ?_ | refine blk_alloc ?_ _)); refine blk_put (cs := #[.int .i64 t393, .int .i64 0]) ?_ 1 _ rfl; (with_reducible repeat (first | refine blk_drewN ?_ _ | refine blk_drew ?_ | refine blk_alloc ?_ _)); refine blk_put (cs := #[.int .i64 0, .int .i64 0]) ?_ 0 _ rfl; (with_reducible repeat (first | refine blk_drewN ?_ _ | refine blk_drew ?_ | refine blk_alloc ?_ _)); exact BK395.out) hb); replace HB := Aside0.mk (below_step (qW HB.out) hb); (try clear hb); (try clear hb2); (try clear hk); (try clear hi)))
    go_meet
    case rel => exact ⟨_, (true), (by first | rfl | (simp; done) | (simp [*]; done)), H', ⟨by first | omega | exact Nat.le_refl _⟩, ⟨by (with_reducible repeat (first | apply Kd.R_alloc | apply Kd.R_drewN | apply Kd.R_drew)); exact HO385.out⟩, ⟨by (with_reducible repeat (first | refine blk_drewN ?_ _ | refine blk_drew ?_ | refine blk_alloc ?_ _)); exact BK378.out⟩, ⟨by (with_reducible repeat (first | refine blk_drewN ?_ _ | refine blk_drew ?_ | refine blk_alloc ?_ _)); exact BK379.out⟩, ⟨by (with_reducible repeat (first | refine blk_drewN ?_ _ | refine blk_drew ?_ | refine blk_alloc ?_ _)); exact BK386.out⟩, ⟨by (with_reducible repeat (first | refine blk_drewN ?_ _ | refine blk_drew ?_ | refine blk_alloc ?_ _)); exact BK389.out⟩, ⟨by (with_reducible repeat (first | refine blk_drewN ?_ _ | refine blk_drew ?_ | refine blk_alloc ?_ _)); exact BK392.out⟩, ⟨by (with_reducible repeat (first | refine blk_drewN ?_ _ | refine blk_drew ?_ | refine blk_alloc ?_ _)); exact BK395.out⟩, ⟨by exact qW HB.out⟩⟩
  · rw [if_neg c49] at H
    have c49b0 : decide (0 ≤ t396) = false := decide_eq_false c49
    clear c49
    (first | rw [c49b0] | (simp only [i64_w, i32_w]; rw [c49b0]) | skip)
    replace H := Option.bind_eq_some_iff.mp H
    obtain ⟨t397, A620, H⟩ := H
    replace H : (partitalaw05_MeterParts.j0 k t380 (decide (t397 ≥ 0)) t381 t382 t383 t387 t388 t390 t391 t393 t394) = some r := H
    have A62 := Aside0.mk A620
    clear A620
    have H' := Aside0.mk H
    clear H
    have hnb63 := NB389_378.out
    have hnc63 := NB378_389.out
    have hnb64 := NB389_379.out
    have hnc64 := NB379_389.out
    have hnb65 := NB389_386.out
    have hnc65 := NB386_389.out
    have hnb66 := NB389_392.out
    have hnc66 := NB392_389.out
    have hnb67 := NB389_395.out
    have hnc67 := NB395_389.out
    have hcz68_0 := qC BK389 0 rfl
    have hcz68_1 := qC BK389 1 rfl
    have hfz68_0 := blk_frozen BK389.out 0
    have hfz68_1 := blk_frozen BK389.out 1
    have hnb69 := NB392_378.out
    have hnc69 := NB378_392.out
    have hnb70 := NB392_379.out
    have hnc70 := NB379_392.out
    have hnb71 := NB392_386.out
    have hnc71 := NB386_392.out
    have hnb72 := NB392_395.out
    have hnc72 := NB395_392.out
    have hcz73_0 := qC BK392 0 rfl
    have hcz73_1 := qC BK392 1 rfl
    have hfz73_0 := blk_frozen BK392.out 0
    have hfz73_1 := blk_frozen BK392.out 1
    go_wp2_with (first | ((with_reducible refine gate_callee (f := 31) rfl ?_); refine goesL_ (some 52) rfl rfl Try.func31 (by kernel_rfl) rfl #[.agg #[.int .i64 t387, .int .i64 t388], .agg #[.int .i64 t390, .int .i64 t391]] rfl (by (try simp only [List.map_toArray, List.map_cons, List.map_nil]); first | done | rfl | (simp only [List.length_drop, List.length_take]; rfl)) ?_; (with_reducible refine (ratio_Compare.calls t387 t388 t390 t391 t396 _ A48.out).mono ?_); rintro e w74 ⟨rfl, hb⟩; refine ⟨_, rfl, ?_⟩; replace HO385 := Aside0.mk (Kd.R_below (qR ((Kd.R_mono (Kd.R_far (p := ⟨gb395, 1, none⟩) (Kd.R_far (p := ⟨gb395, 0, none⟩) (Kd.R_types HO385.out BK395.out (by decide)) (fun _ hk => hk.2) (.int .i64 t393)) (fun _ hk => hk.2) (.int .i64 t394)) (fun _ h_ => h_.1)))) hb); replace BK378 := Aside0.mk (blk_below (g := gb378) (o := .cells #[.int .i64 a0_0, .int .i64 a0_1, .slice A0_2 l0_2.length c0_2] 24 (0, 0)) (by (with_reducible repeat (first | refine blk_drewN ?_ _ | refine blk_drew ?_ | refine blk_alloc ?_ _)); refine blk_far ?_ NB378_395.out _; (with_reducible repeat (first | refine blk_drewN ?_ _ | refine blk_drew ?_ | refine blk_alloc ?_ _)); refine blk_far ?_ NB378_395.out _; (with_reducible repeat (first | refine blk_drewN ?_ _ | refine blk_drew ?_ | refine blk_alloc ?_ _)); exact BK378.out) hb); replace BK379 := Aside0.mk (blk_below (g := gb379) (o := .cells #[.int .i64 a2_0, .int .i64 a2_1, .int .i64 a2_2] 50 (0, 0)) (by (with_reducible repeat (first | refine blk_drewN ?_ _ | refine blk_drew ?_ | refine blk_alloc ?_ _)); refine blk_far ?_ NB379_395.out _; (with_reducible repeat (first | refine blk_drewN ?_ _ | refine blk_drew ?_ | refine blk_alloc ?_ _)); refine blk_far ?_ NB379_395.out _; (with_reducible repeat (first | refine blk_drewN ?_ _ | refine blk_drew ?_ | refine blk_alloc ?_ _)); exact BK379.out) hb); replace BK386 := Aside0.mk (blk_below (g := gb386) (o := .cells #[.int .i64 t381, .int .i64 t382, .slice Ao21 t383.length co21] 24 (0, 0)) (by (with_reducible repeat (first | refine blk_drewN ?_ _ | refine blk_drew ?_ | refine blk_alloc ?_ _)); refine blk_far ?_ NB386_395.out _; (with_reducible repeat (first | refine blk_drewN ?_ _ | refine blk_drew ?_ | refine blk_alloc ?_ _)); refine blk_far ?_ NB386_395.out _; (with_reducible repeat (first | refine blk_drewN ?_ _ | refine blk_drew ?_ | refine blk_alloc ?_ _)); exact BK386.out) hb); replace BK389 := Aside0.mk (blk_below (g := gb389) (o := .cells #[.int .i64 t387, .int .i64 t388] 26 (0, 0)) (by (with_reducible repeat (first | refine blk_drewN ?_ _ | refine blk_drew ?_ | refine blk_alloc ?_ _)); refine blk_far ?_ NB389_395.out _; (with_reducible repeat (first | refine blk_drewN ?_ _ | refine blk_drew ?_ | refine blk_alloc ?_ _)); refine blk_far ?_ NB389_395.out _; (with_reducible repeat (first | refine blk_drewN ?_ _ | refine blk_drew ?_ | refine blk_alloc ?_ _)); exact BK389.out) hb); replace BK392 := Aside0.mk (blk_below (g := gb392) (o := .cells #[.int .i64 t390, .int .i64 t391] 26 (0, 0)) (by (with_reducible repeat (first | refine blk_drewN ?_ _ | refine blk_drew ?_ | refine blk_alloc ?_ _)); refine blk_far ?_ NB392_395.out _; (with_reducible repeat (first | refine blk_drewN ?_ _ | refine blk_drew ?_ | refine blk_alloc ?_ _)); refine blk_far ?_ NB392_395.out _; (with_reducible repeat (first | refine blk_drewN ?_ _ | refine blk_drew ?_ | refine blk_alloc ?_ _)); exact BK392.out) hb); replace BK395 := Aside0.mk (blk_below (g := gb395) (o := .cells #[.int .i64 t393, .int .i64 t394] 26 (0, 0)) (by (with_reducible repeat (first | refine blk_drewN ?_ _ | refine blk_drew ?_ | refine blk_alloc ?_ _)); refine blk_put (cs := #[.int .i64 t393, .int .i64 0]) ?_ 1 _ rfl; (with_reducible repeat (first | refine blk_drewN ?_ _ | refine blk_drew ?_ | refine blk_alloc ?_ _)); refine blk_put (cs := #[.int .i64 0, .int .i64 0]) ?_ 0 _ rfl; (with_reducible repeat (first | refine blk_drewN ?_ _ | refine blk_drew ?_ | refine blk_alloc ?_ _)); exact BK395.out) hb); replace HB := Aside0.mk (below_step (qW HB.out) hb); (try clear hb); (try clear hb2); (try clear hk); (try clear hi); have hcz75_0 := qC BK392 0 rfl; have hcz75_1 := qC BK392 1 rfl; have hfz75_0 := blk_frozen BK392.out 0; have hfz75_1 := blk_frozen BK392.out 1; have hnb76 := NB395_378.out; have hnc76 := NB378_395.out; have hnb77 := NB395_379.out; have hnc77 := NB379_395.out; have hnb78 := NB395_386.out; have hnc78 := NB386_395.out; have hcz79_0 := qC BK395 0 rfl; have hcz79_1 := qC BK395 1 rfl; have hfz79_0 := blk_frozen BK395.out 0; have hfz79_1 := blk_frozen BK395.out 1) | (go_at_call 31; (with_reducible refine (ratio_Compare.calls t390 t391 t393 t394 t397 _ A62.out).mono ?_); rintro e w80 ⟨rfl, hb⟩; replace HO385 := qE HO385 hb; replace BK378 := qD BK378 hb; replace BK379 := qD BK379 hb; replace BK386 := qD BK386 hb; replace BK389 := qD BK389 hb; replace BK392 := qD BK392 hb; replace BK395 := qD BK395 hb; replace HB := Aside0.mk (below_step (qW HB.out) hb); (try clear hb); (try clear hb2); (try clear hk); (try clear hi)))
    go_meet
    case rel => exact ⟨_, (decide (t397 ≥ 0)), (by first | rfl | (simp; done) | (simp [*]; done)), H', ⟨by first | omega | exact Nat.le_refl _⟩, ⟨by (with_reducible repeat (first | apply Kd.R_alloc | apply Kd.R_drewN | apply Kd.R_drew)); exact HO385.out⟩, ⟨by (with_reducible repeat (first | refine blk_drewN ?_ _ | refine blk_drew ?_ | refine blk_alloc ?_ _)); exact BK378.out⟩, ⟨by (with_reducible repeat (first | refine blk_drewN ?_ _ | refine blk_drew ?_ | refine blk_alloc ?_ _)); exact BK379.out⟩, ⟨by (with_reducible repeat (first | refine blk_drewN ?_ _ | refine blk_drew ?_ | refine blk_alloc ?_ _)); exact BK386.out⟩, ⟨by (with_reducible repeat (first | refine blk_drewN ?_ _ | refine blk_drew ?_ | refine blk_alloc ?_ _)); exact BK389.out⟩, ⟨by (with_reducible repeat (first | refine blk_drewN ?_ _ | refine blk_drew ?_ | refine blk_alloc ?_ _)); exact BK392.out⟩, ⟨by (with_reducible repeat (first | refine blk_drewN ?_ _ | refine blk_drew ?_ | refine blk_alloc ?_ _)); exact BK395.out⟩, ⟨by exact qW HB.out⟩⟩
 case rest =>
  clear HC10
  try clear c1
  try clear c2
  try clear p2
  try clear c3
  try clear c4
  try clear c5
  try clear c6
  try clear c7
  try clear c10
  try clear c11
  try clear c14
  try clear c18
  try clear c19
  try clear c21
  try clear c25
  try clear c26
  try clear c27
  try clear c31
  try clear c33
  try clear c34
  try clear c35
  try clear c36
  try clear c42
  try clear c43
  try clear c44
  try clear c45
  try clear c46
  try clear c49
  try clear c49b0
  try clear c50
  try clear c51
  try clear c52
  try clear c53
  try clear c54
  try clear c56
  try clear c57
  try clear c58
  try clear c59
  try clear c63
  try clear c64
  try clear c65
  try clear c66
  try clear c67
  try clear c69
  try clear c70
  try clear c71
  try clear c72
  try clear c76
  try clear c77
  try clear c78
  try clear hcz15_0
  try clear hcz15_1
  try clear hcz15_2
  try clear hcz20_0
  try clear hcz20_1
  try clear hcz20_2
  try clear hcz22_0
  try clear hcz22_1
  try clear hcz22_2
  try clear hcz28_0
  try clear hcz28_1
  try clear hcz29_0
  try clear hcz29_1
  try clear hcz29_2
  try clear hcz30_0
  try clear hcz30_1
  try clear hcz30_2
  try clear hcz37_0
  try clear hcz37_1
  try clear hcz38_0
  try clear hcz38_1
  try clear hcz38_2
  try clear hcz39_0
  try clear hcz39_1
  try clear hcz39_2
  try clear hcz47_0
  try clear hcz47_1
  try clear hcz55_0
  try clear hcz55_1
  try clear hcz60_0
  try clear hcz60_1
  try clear hcz68_0
  try clear hcz68_1
  try clear hcz73_0
  try clear hcz73_1
  try clear hcz75_0
  try clear hcz75_1
  try clear hcz79_0
  try clear hcz79_1
  try clear hfz15_0
  try clear hfz15_1
  try clear hfz15_2
  try clear hfz20_0
  try clear hfz20_1
  try clear hfz20_2
  try clear hfz22_0
  try clear hfz22_1
  try clear hfz22_2
  try clear hfz28_0
  try clear hfz28_1
  try clear hfz29_0
  try clear hfz29_1
  try clear hfz29_2
  try clear hfz30_0
  try clear hfz30_1
  try clear hfz30_2
  try clear hfz37_0
  try clear hfz37_1
  try clear hfz38_0
  try clear hfz38_1
  try clear hfz38_2
  try clear hfz39_0
  try clear hfz39_1
  try clear hfz39_2
  try clear hfz47_0
  try clear hfz47_1
  try clear hfz55_0
  try clear hfz55_1
  try clear hfz60_0
  try clear hfz60_1
  try clear hfz68_0
  try clear hfz68_1
  try clear hfz73_0
  try clear hfz73_1
  try clear hfz75_0
  try clear hfz75_1
  try clear hfz79_0
  try clear hfz79_1
  obtain ⟨kq, x59_9, rfl, HA, HJ9, HO_387002, BK378, BK379, BK386, BK389, BK392, BK395, HB⟩ := hcut
  cases kq with
  | zero => exact absurd HA.out (by simp [partitalaw05_MeterParts.j0])
  | succ kj9 =>
   have H := HA.out
   clear HA
   simp only [partitalaw05_MeterParts.j0] at H
   by_cases c81 : x59_9 = true
   · subst c81
     have H1 : (some t380) = some r := by rw [if_pos rfl] at H; exact H
     clear H
     have H := H1
     clear H1
     obtain rfl := Option.some.inj H
     go_wp2
     go_ret
     exact ⟨by first | rfl | (simp [errW_none, errW_some] <;> rfl) | (simp [*, errW_none, errW_some] <;> rfl), by exact qW HB.out⟩
   · replace c81 := Bool.eq_false_iff.mpr c81
     subst c81
     have H1 : ((ratio_Sub.f t390 t391 t387 t388).bind fun bt398 => ((ratio_Sub.f t393 t394 t390 t391).bind fun bt402 => ((ratio_Sub.f t393 t394 t387 t388).bind fun bt406 => ((meter_Cut.f kj9 t381 t382 t383 t387 t388 bt398.1 bt398.2.1).bind fun bt410 => ((meter_Cut.f kj9 t381 t382 t383 t390 t391 bt402.1 bt402.2.1).bind fun bt414 => ((meter_Cut.f kj9 t381 t382 t383 t387 t388 bt406.1 bt406.2.1).bind fun bt418 => ((meter_Weight.f kj9 t381 t382 t383 t390 t391).bind fun bt422 => (if bt398.2.2 = 0 then (if bt402.2.2 = 0 then (if bt406.2.2 = 0 then (if bt410.2 = 0 then (if bt414.2 = 0 then (if bt418.2 = 0 then (partitalaw05_MeterParts.j1 kj9 t380 bt410.1 bt414.1 bt418.1 bt422.1 (bt422.2 != 0)) else (partitalaw05_MeterParts.j1 kj9 t380 bt410.1 bt414.1 bt418.1 bt422.1 true)) else (partitalaw05_MeterParts.j1 kj9 t380 bt410.1 bt414.1 bt418.1 bt422.1 true)) else (partitalaw05_MeterParts.j1 kj9 t380 bt410.1 bt414.1 bt418.1 bt422.1 true)) else (partitalaw05_MeterParts.j1 kj9 t380 bt410.1 bt414.1 bt418.1 bt422.1 true)) else (partitalaw05_MeterParts.j1 kj9 t380 bt410.1 bt414.1 bt418.1 bt422.1 true)) else (partitalaw05_MeterParts.j1 kj9 t380 bt410.1 bt414.1 bt418.1 bt422.1 true))))))))) = some r := by rw [if_neg (show ¬ (false = true) by decide)] at H; exact H
     clear H
     have H := H1
     clear H1
     replace H := Option.bind_eq_some_iff.mp H
     obtain ⟨⟨t398, t399, t400⟩, A820, H⟩ := H
     replace H : ((ratio_Sub.f t393 t394 t390 t391).bind fun bt402 => ((ratio_Sub.f t393 t394 t387 t388).bind fun bt406 => ((meter_Cut.f kj9 t381 t382 t383 t387 t388 t398 t399).bind fun bt410 => ((meter_Cut.f kj9 t381 t382 t383 t390 t391 bt402.1 bt402.2.1).bind fun bt414 => ((meter_Cut.f kj9 t381 t382 t383 t387 t388 bt406.1 bt406.2.1).bind fun bt418 => ((meter_Weight.f kj9 t381 t382 t383 t390 t391).bind fun bt422 => (if t400 = 0 then (if bt402.2.2 = 0 then (if bt406.2.2 = 0 then (if bt410.2 = 0 then (if bt414.2 = 0 then (if bt418.2 = 0 then (partitalaw05_MeterParts.j1 kj9 t380 bt410.1 bt414.1 bt418.1 bt422.1 (bt422.2 != 0)) else (partitalaw05_MeterParts.j1 kj9 t380 bt410.1 bt414.1 bt418.1 bt422.1 true)) else (partitalaw05_MeterParts.j1 kj9 t380 bt410.1 bt414.1 bt418.1 bt422.1 true)) else (partitalaw05_MeterParts.j1 kj9 t380 bt410.1 bt414.1 bt418.1 bt422.1 true)) else (partitalaw05_MeterParts.j1 kj9 t380 bt410.1 bt414.1 bt418.1 bt422.1 true)) else (partitalaw05_MeterParts.j1 kj9 t380 bt410.1 bt414.1 bt418.1 bt422.1 true)) else (partitalaw05_MeterParts.j1 kj9 t380 bt410.1 bt414.1 bt418.1 bt422.1 true)))))))) = some r := H
     have A82 := Aside0.mk A820
     clear A820
     replace H := Option.bind_eq_some_iff.mp H
     obtain ⟨⟨t402, t403, t404⟩, A830, H⟩ := H
     replace H : ((ratio_Sub.f t393 t394 t387 t388).bind fun bt406 => ((meter_Cut.f kj9 t381 t382 t383 t387 t388 t398 t399).bind fun bt410 => ((meter_Cut.f kj9 t381 t382 t383 t390 t391 t402 t403).bind fun bt414 => ((meter_Cut.f kj9 t381 t382 t383 t387 t388 bt406.1 bt406.2.1).bind fun bt418 => ((meter_Weight.f kj9 t381 t382 t383 t390 t391).bind fun bt422 => (if t400 = 0 then (if t404 = 0 then (if bt406.2.2 = 0 then (if bt410.2 = 0 then (if bt414.2 = 0 then (if bt418.2 = 0 then (partitalaw05_MeterParts.j1 kj9 t380 bt410.1 bt414.1 bt418.1 bt422.1 (bt422.2 != 0)) else (partitalaw05_MeterParts.j1 kj9 t380 bt410.1 bt414.1 bt418.1 bt422.1 true)) else (partitalaw05_MeterParts.j1 kj9 t380 bt410.1 bt414.1 bt418.1 bt422.1 true)) else (partitalaw05_MeterParts.j1 kj9 t380 bt410.1 bt414.1 bt418.1 bt422.1 true)) else (partitalaw05_MeterParts.j1 kj9 t380 bt410.1 bt414.1 bt418.1 bt422.1 true)) else (partitalaw05_MeterParts.j1 kj9 t380 bt410.1 bt414.1 bt418.1 bt422.1 true)) else (partitalaw05_MeterParts.j1 kj9 t380 bt410.1 bt414.1 bt418.1 bt422.1 true))))))) = some r := H
     have A83 := Aside0.mk A830
     clear A830
     replace H := Option.bind_eq_some_iff.mp H
     obtain ⟨⟨t406, t407, t408⟩, A840, H⟩ := H
     replace H : ((meter_Cut.f kj9 t381 t382 t383 t387 t388 t398 t399).bind fun bt410 => ((meter_Cut.f kj9 t381 t382 t383 t390 t391 t402 t403).bind fun bt414 => ((meter_Cut.f kj9 t381 t382 t383 t387 t388 t406 t407).bind fun bt418 => ((meter_Weight.f kj9 t381 t382 t383 t390 t391).bind fun bt422 => (if t400 = 0 then (if t404 = 0 then (if t408 = 0 then (if bt410.2 = 0 then (if bt414.2 = 0 then (if bt418.2 = 0 then (partitalaw05_MeterParts.j1 kj9 t380 bt410.1 bt414.1 bt418.1 bt422.1 (bt422.2 != 0)) else (partitalaw05_MeterParts.j1 kj9 t380 bt410.1 bt414.1 bt418.1 bt422.1 true)) else (partitalaw05_MeterParts.j1 kj9 t380 bt410.1 bt414.1 bt418.1 bt422.1 true)) else (partitalaw05_MeterParts.j1 kj9 t380 bt410.1 bt414.1 bt418.1 bt422.1 true)) else (partitalaw05_MeterParts.j1 kj9 t380 bt410.1 bt414.1 bt418.1 bt422.1 true)) else (partitalaw05_MeterParts.j1 kj9 t380 bt410.1 bt414.1 bt418.1 bt422.1 true)) else (partitalaw05_MeterParts.j1 kj9 t380 bt410.1 bt414.1 bt418.1 bt422.1 true)))))) = some r := H
     have A84 := Aside0.mk A840
     clear A840
     replace H := Option.bind_eq_some_iff.mp H
     obtain ⟨⟨t410, t413⟩, A850, H⟩ := H
     replace H : ((meter_Cut.f kj9 t381 t382 t383 t390 t391 t402 t403).bind fun bt414 => ((meter_Cut.f kj9 t381 t382 t383 t387 t388 t406 t407).bind fun bt418 => ((meter_Weight.f kj9 t381 t382 t383 t390 t391).bind fun bt422 => (if t400 = 0 then (if t404 = 0 then (if t408 = 0 then (if t413 = 0 then (if bt414.2 = 0 then (if bt418.2 = 0 then (partitalaw05_MeterParts.j1 kj9 t380 t410 bt414.1 bt418.1 bt422.1 (bt422.2 != 0)) else (partitalaw05_MeterParts.j1 kj9 t380 t410 bt414.1 bt418.1 bt422.1 true)) else (partitalaw05_MeterParts.j1 kj9 t380 t410 bt414.1 bt418.1 bt422.1 true)) else (partitalaw05_MeterParts.j1 kj9 t380 t410 bt414.1 bt418.1 bt422.1 true)) else (partitalaw05_MeterParts.j1 kj9 t380 t410 bt414.1 bt418.1 bt422.1 true)) else (partitalaw05_MeterParts.j1 kj9 t380 t410 bt414.1 bt418.1 bt422.1 true)) else (partitalaw05_MeterParts.j1 kj9 t380 t410 bt414.1 bt418.1 bt422.1 true))))) = some r := H
     have A85 := Aside0.mk A850
     clear A850
     replace H := Option.bind_eq_some_iff.mp H
     obtain ⟨⟨t414, t417⟩, A860, H⟩ := H
     replace H : ((meter_Cut.f kj9 t381 t382 t383 t387 t388 t406 t407).bind fun bt418 => ((meter_Weight.f kj9 t381 t382 t383 t390 t391).bind fun bt422 => (if t400 = 0 then (if t404 = 0 then (if t408 = 0 then (if t413 = 0 then (if t417 = 0 then (if bt418.2 = 0 then (partitalaw05_MeterParts.j1 kj9 t380 t410 t414 bt418.1 bt422.1 (bt422.2 != 0)) else (partitalaw05_MeterParts.j1 kj9 t380 t410 t414 bt418.1 bt422.1 true)) else (partitalaw05_MeterParts.j1 kj9 t380 t410 t414 bt418.1 bt422.1 true)) else (partitalaw05_MeterParts.j1 kj9 t380 t410 t414 bt418.1 bt422.1 true)) else (partitalaw05_MeterParts.j1 kj9 t380 t410 t414 bt418.1 bt422.1 true)) else (partitalaw05_MeterParts.j1 kj9 t380 t410 t414 bt418.1 bt422.1 true)) else (partitalaw05_MeterParts.j1 kj9 t380 t410 t414 bt418.1 bt422.1 true)))) = some r := H
     have A86 := Aside0.mk A860
     clear A860
     replace H := Option.bind_eq_some_iff.mp H
     obtain ⟨⟨t418, t421⟩, A870, H⟩ := H
     replace H : ((meter_Weight.f kj9 t381 t382 t383 t390 t391).bind fun bt422 => (if t400 = 0 then (if t404 = 0 then (if t408 = 0 then (if t413 = 0 then (if t417 = 0 then (if t421 = 0 then (partitalaw05_MeterParts.j1 kj9 t380 t410 t414 t418 bt422.1 (bt422.2 != 0)) else (partitalaw05_MeterParts.j1 kj9 t380 t410 t414 t418 bt422.1 true)) else (partitalaw05_MeterParts.j1 kj9 t380 t410 t414 t418 bt422.1 true)) else (partitalaw05_MeterParts.j1 kj9 t380 t410 t414 t418 bt422.1 true)) else (partitalaw05_MeterParts.j1 kj9 t380 t410 t414 t418 bt422.1 true)) else (partitalaw05_MeterParts.j1 kj9 t380 t410 t414 t418 bt422.1 true)) else (partitalaw05_MeterParts.j1 kj9 t380 t410 t414 t418 bt422.1 true))) = some r := H
     have A87 := Aside0.mk A870
     clear A870
     replace H := Option.bind_eq_some_iff.mp H
     obtain ⟨⟨t422, t423⟩, A880, H⟩ := H
     replace H : (if t400 = 0 then (if t404 = 0 then (if t408 = 0 then (if t413 = 0 then (if t417 = 0 then (if t421 = 0 then (partitalaw05_MeterParts.j1 kj9 t380 t410 t414 t418 t422 (t423 != 0)) else (partitalaw05_MeterParts.j1 kj9 t380 t410 t414 t418 t422 true)) else (partitalaw05_MeterParts.j1 kj9 t380 t410 t414 t418 t422 true)) else (partitalaw05_MeterParts.j1 kj9 t380 t410 t414 t418 t422 true)) else (partitalaw05_MeterParts.j1 kj9 t380 t410 t414 t418 t422 true)) else (partitalaw05_MeterParts.j1 kj9 t380 t410 t414 t418 t422 true)) else (partitalaw05_MeterParts.j1 kj9 t380 t410 t414 t418 t422 true)) = some r := H
     have A88 := Aside0.mk A880
     clear A880
     have HC89 := Aside0.mk H
     clear H
     have hnb90 := NB392_378.out
     have hnc90 := NB378_392.out
     have hnb91 := NB392_379.out
     have hnc91 := NB379_392.out
     have hnb92 := NB392_386.out
     have hnc92 := NB386_392.out
     have hnb93 := NB392_389.out
     have hnc93 := NB389_392.out
     have hnb94 := NB392_395.out
     have hnc94 := NB395_392.out
     have hcz95_0 := qC BK392 0 rfl
     have hcz95_1 := qC BK392 1 rfl
     have hfz95_0 := blk_frozen BK392.out 0
     have hfz95_1 := blk_frozen BK392.out 1
     have hnb96 := NB389_378.out
     have hnc96 := NB378_389.out
     have hnb97 := NB389_379.out
     have hnc97 := NB379_389.out
     have hnb98 := NB389_386.out
     have hnc98 := NB386_389.out
     have hnb99 := NB389_395.out
     have hnc99 := NB395_389.out
     have hcz100_0 := qC BK389 0 rfl
     have hcz100_1 := qC BK389 1 rfl
     have hfz100_0 := blk_frozen BK389.out 0
     have hfz100_1 := blk_frozen BK389.out 1
     go_upto_region 15 with (first | ((with_reducible refine gate_callee (f := 29) rfl ?_); refine goesL_ (some 64) rfl rfl Try.func29 (by kernel_rfl) rfl #[.agg #[.int .i64 t390, .int .i64 t391], .agg #[.int .i64 t387, .int .i64 t388]] rfl (by (try simp only [List.map_toArray, List.map_cons, List.map_nil]); first | done | rfl | (simp only [List.length_drop, List.length_take]; rfl)) ?_; (with_reducible refine (ratio_Sub.calls t390 t391 t387 t388 t398 t399 t400 _ A82.out).mono ?_); rintro e w101 ⟨rfl, hb⟩; refine ⟨_, rfl, ?_⟩; replace HO_387002 := qE HO_387002 hb; replace BK378 := qD BK378 hb; replace BK379 := qD BK379 hb; replace BK386 := qD BK386 hb; replace BK389 := qD BK389 hb; replace BK392 := qD BK392 hb; replace BK395 := qD BK395 hb; replace HB := Aside0.mk (below_step (qW HB.out) hb); (try clear hb); (try clear hb2); (try clear hk); (try clear hi)) | ((with_reducible refine gate_dst (N := 14) rfl ?_); (try (refine gate_guard (by rfl) ?_; dsimp only)); refine box_event ?hg (N := 14) ?hd (cs := #[.int .i64 0, .int .i64 0]) (t := 26) ?hr ?_; (case hd => rfl); (case hg => rfl); (case hr => first | (go_simp; done) | (go_simp; rfl)); intro gb401 hg w102 hbox hb; replace HO_387002 := qE HO_387002 hb; have BK401 := Aside0.mk (hbox); have GW401 := qT HB hg; have GE401 := qS HB hg; replace HB := Aside0.mk (below_step (qW HB.out) hb); have NB378_401 := qL BK378 hg; have NB401_378 := qM BK378 hg; replace BK378 := qD BK378 hb; have NB379_401 := qL BK379 hg; have NB401_379 := qM BK379 hg; replace BK379 := qD BK379 hb; have NB386_401 := qL BK386 hg; have NB401_386 := qM BK386 hg; replace BK386 := qD BK386 hb; have NB389_401 := qL BK389 hg; have NB401_389 := qM BK389 hg; replace BK389 := qD BK389 hb; have NB392_401 := qL BK392 hg; have NB401_392 := qM BK392 hg; replace BK392 := qD BK392 hb; have NB395_401 := qL BK395 hg; have NB401_395 := qM BK395 hg; replace BK395 := qD BK395 hb; clear hb hbox hg; have hnb103 := NB401_378.out; have hnc103 := NB378_401.out; have hnb104 := NB401_379.out; have hnc104 := NB379_401.out; have hnb105 := NB401_386.out; have hnc105 := NB386_401.out; have hnb106 := NB401_389.out; have hnc106 := NB389_401.out; have hnb107 := NB401_392.out; have hnc107 := NB392_401.out; have hnb108 := NB401_395.out; have hnc108 := NB395_401.out; have hcz109_0 := qC BK401 0 rfl; have hcz109_1 := qC BK401 1 rfl; have hfz109_0 := blk_frozen BK401.out 0; have hfz109_1 := blk_frozen BK401.out 1; have hnb110 := NB395_378.out; have hnc110 := NB378_395.out; have hnb111 := NB395_379.out; have hnc111 := NB379_395.out; have hnb112 := NB395_386.out; have hnc112 := NB386_395.out; have hcz113_0 := qC BK395 0 rfl; have hcz113_1 := qC BK395 1 rfl; have hfz113_0 := blk_frozen BK395.out 0; have hfz113_1 := blk_frozen BK395.out 1; have hcz114_0 := qC BK392 0 rfl; have hcz114_1 := qC BK392 1 rfl; have hfz114_0 := blk_frozen BK392.out 0; have hfz114_1 := blk_frozen BK392.out 1) | ((with_reducible refine gate_callee (f := 29) rfl ?_); refine goesL_ (some 70) rfl rfl Try.func29 (by kernel_rfl) rfl #[.agg #[.int .i64 t393, .int .i64 t394], .agg #[.int .i64 t390, .int .i64 t391]] rfl (by (try simp only [List.map_toArray, List.map_cons, List.map_nil]); first | done | rfl | (simp only [List.length_drop, List.length_take]; rfl)) ?_; (with_reducible refine (ratio_Sub.calls t393 t394 t390 t391 t402 t403 t404 _ A83.out).mono ?_); rintro e w115 ⟨rfl, hb⟩; refine ⟨_, rfl, ?_⟩; replace HO_387002 := Aside0.mk (Kd.R_below (qR ((Kd.R_mono (Kd.R_far (p := ⟨gb401, 1, none⟩) (Kd.R_far (p := ⟨gb401, 0, none⟩) (Kd.R_types HO_387002.out BK401.out (by decide)) (fun _ hk => hk.2) (.int .i64 t398)) (fun _ hk => hk.2) (.int .i64 t399)) (fun _ h_ => h_.1)))) hb); replace BK378 := Aside0.mk (blk_below (g := gb378) (o := .cells #[.int .i64 a0_0, .int .i64 a0_1, .slice A0_2 l0_2.length c0_2] 24 (0, 0)) (by (with_reducible repeat (first | refine blk_drewN ?_ _ | refine blk_drew ?_ | refine blk_alloc ?_ _)); refine blk_far ?_ NB378_401.out _; (with_reducible repeat (first | refine blk_drewN ?_ _ | refine blk_drew ?_ | refine blk_alloc ?_ _)); refine blk_far ?_ NB378_401.out _; (with_reducible repeat (first | refine blk_drewN ?_ _ | refine blk_drew ?_ | refine blk_alloc ?_ _)); exact BK378.out) hb); replace BK379 := Aside0.mk (blk_below (g := gb379) (o := .cells #[.int .i64 a2_0, .int .i64 a2_1, .int .i64 a2_2] 50 (0, 0)) (by (with_reducible repeat (first | refine blk_drewN ?_ _ | refine blk_drew ?_ | refine blk_alloc ?_ _)); refine blk_far ?_ NB379_401.out _; (with_reducible repeat (first | refine blk_drewN ?_ _ | refine blk_drew ?_ | refine blk_alloc ?_ _)); refine blk_far ?_ NB379_401.out _; (with_reducible repeat (first | refine blk_drewN ?_ _ | refine blk_drew ?_ | refine blk_alloc ?_ _)); exact BK379.out) hb); replace BK386 := Aside0.mk (blk_below (g := gb386) (o := .cells #[.int .i64 t381, .int .i64 t382, .slice Ao21 t383.length co21] 24 (0, 0)) (by (with_reducible repeat (first | refine blk_drewN ?_ _ | refine blk_drew ?_ | refine blk_alloc ?_ _)); refine blk_far ?_ NB386_401.out _; (with_reducible repeat (first | refine blk_drewN ?_ _ | refine blk_drew ?_ | refine blk_alloc ?_ _)); refine blk_far ?_ NB386_401.out _; (with_reducible repeat (first | refine blk_drewN ?_ _ | refine blk_drew ?_ | refine blk_alloc ?_ _)); exact BK386.out) hb); replace BK389 := Aside0.mk (blk_below (g := gb389) (o := .cells #[.int .i64 t387, .int .i64 t388] 26 (0, 0)) (by (with_reducible repeat (first | refine blk_drewN ?_ _ | refine blk_drew ?_ | refine blk_alloc ?_ _)); refine blk_far ?_ NB389_401.out _; (with_reducible repeat (first | refine blk_drewN ?_ _ | refine blk_drew ?_ | refine blk_alloc ?_ _)); refine blk_far ?_ NB389_401.out _; (with_reducible repeat (first | refine blk_drewN ?_ _ | refine blk_drew ?_ | refine blk_alloc ?_ _)); exact BK389.out) hb); replace BK392 := Aside0.mk (blk_below (g := gb392) (o := .cells #[.int .i64 t390, .int .i64 t391] 26 (0, 0)) (by (with_reducible repeat (first | refine blk_drewN ?_ _ | refine blk_drew ?_ | refine blk_alloc ?_ _)); refine blk_far ?_ NB392_401.out _; (with_reducible repeat (first | refine blk_drewN ?_ _ | refine blk_drew ?_ | refine blk_alloc ?_ _)); refine blk_far ?_ NB392_401.out _; (with_reducible repeat (first | refine blk_drewN ?_ _ | refine blk_drew ?_ | refine blk_alloc ?_ _)); exact BK392.out) hb); replace BK395 := Aside0.mk (blk_below (g := gb395) (o := .cells #[.int .i64 t393, .int .i64 t394] 26 (0, 0)) (by (with_reducible repeat (first | refine blk_drewN ?_ _ | refine blk_drew ?_ | refine blk_alloc ?_ _)); refine blk_far ?_ NB395_401.out _; (with_reducible repeat (first | refine blk_drewN ?_ _ | refine blk_drew ?_ | refine blk_alloc ?_ _)); refine blk_far ?_ NB395_401.out _; (with_reducible repeat (first | refine blk_drewN ?_ _ | refine blk_drew ?_ | refine blk_alloc ?_ _)); exact BK395.out) hb); replace BK401 := Aside0.mk (blk_below (g := gb401) (o := .cells #[.int .i64 t398, .int .i64 t399] 26 (0, 0)) (by (with_reducible repeat (first | refine blk_drewN ?_ _ | refine blk_drew ?_ | refine blk_alloc ?_ _)); refine blk_put (cs := #[.int .i64 t398, .int .i64 0]) ?_ 1 _ rfl; (with_reducible repeat (first | refine blk_drewN ?_ _ | refine blk_drew ?_ | refine blk_alloc ?_ _)); refine blk_put (cs := #[.int .i64 0, .int .i64 0]) ?_ 0 _ rfl; (with_reducible repeat (first | refine blk_drewN ?_ _ | refine blk_drew ?_ | refine blk_alloc ?_ _)); exact BK401.out) hb); replace HB := Aside0.mk (below_step (qW HB.out) hb); (try clear hb); (try clear hb2); (try clear hk); (try clear hi)) | ((with_reducible refine gate_dst (N := 16) rfl ?_); (try (refine gate_guard (by rfl) ?_; dsimp only)); refine box_event ?hg (N := 16) ?hd (cs := #[.int .i64 0, .int .i64 0]) (t := 26) ?hr ?_; (case hd => rfl); (case hg => rfl); (case hr => first | (go_simp; done) | (go_simp; rfl)); intro gb405 hg w116 hbox hb; replace HO_387002 := qE HO_387002 hb; have BK405 := Aside0.mk (hbox); have GW405 := qT HB hg; have GE405 := qS HB hg; replace HB := Aside0.mk (below_step (qW HB.out) hb); have NB378_405 := qL BK378 hg; have NB405_378 := qM BK378 hg; replace BK378 := qD BK378 hb; have NB379_405 := qL BK379 hg; have NB405_379 := qM BK379 hg; replace BK379 := qD BK379 hb; have NB386_405 := qL BK386 hg; have NB405_386 := qM BK386 hg; replace BK386 := qD BK386 hb; have NB389_405 := qL BK389 hg; have NB405_389 := qM BK389 hg; replace BK389 := qD BK389 hb; have NB392_405 := qL BK392 hg; have NB405_392 := qM BK392 hg; replace BK392 := qD BK392 hb; have NB395_405 := qL BK395 hg; have NB405_395 := qM BK395 hg; replace BK395 := qD BK395 hb; have NB401_405 := qL BK401 hg; have NB405_401 := qM BK401 hg; replace BK401 := qD BK401 hb; clear hb hbox hg; have hnb117 := NB405_378.out; have hnc117 := NB378_405.out; have hnb118 := NB405_379.out; have hnc118 := NB379_405.out; have hnb119 := NB405_386.out; have hnc119 := NB386_405.out; have hnb120 := NB405_389.out; have hnc120 := NB389_405.out; have hnb121 := NB405_392.out; have hnc121 := NB392_405.out; have hnb122 := NB405_395.out; have hnc122 := NB395_405.out; have hnb123 := NB405_401.out; have hnc123 := NB401_405.out; have hcz124_0 := qC BK405 0 rfl; have hcz124_1 := qC BK405 1 rfl; have hfz124_0 := blk_frozen BK405.out 0; have hfz124_1 := blk_frozen BK405.out 1; have hcz125_0 := qC BK395 0 rfl; have hcz125_1 := qC BK395 1 rfl; have hfz125_0 := blk_frozen BK395.out 0; have hfz125_1 := blk_frozen BK395.out 1; have hcz126_0 := qC BK389 0 rfl; have hcz126_1 := qC BK389 1 rfl; have hfz126_0 := blk_frozen BK389.out 0; have hfz126_1 := blk_frozen BK389.out 1) | ((with_reducible refine gate_callee (f := 29) rfl ?_); refine goesL_ (some 76) rfl rfl Try.func29 (by kernel_rfl) rfl #[.agg #[.int .i64 t393, .int .i64 t394], .agg #[.int .i64 t387, .int .i64 t388]] rfl (by (try simp only [List.map_toArray, List.map_cons, List.map_nil]); first | done | rfl | (simp only [List.length_drop, List.length_take]; rfl)) ?_; (with_reducible refine (ratio_Sub.calls t393 t394 t387 t388 t406 t407 t408 _ A84.out).mono ?_); rintro e w127 ⟨rfl, hb⟩; refine ⟨_, rfl, ?_⟩; replace HO_387002 := Aside0.mk (Kd.R_below (qR ((Kd.R_mono (Kd.R_far (p := ⟨gb405, 1, none⟩) (Kd.R_far (p := ⟨gb405, 0, none⟩) (Kd.R_types HO_387002.out BK405.out (by decide)) (fun _ hk => hk.2) (.int .i64 t402)) (fun _ hk => hk.2) (.int .i64 t403)) (fun _ h_ => h_.1)))) hb); replace BK378 := Aside0.mk (blk_below (g := gb378) (o := .cells #[.int .i64 a0_0, .int .i64 a0_1, .slice A0_2 l0_2.length c0_2] 24 (0, 0)) (by (with_reducible repeat (first | refine blk_drewN ?_ _ | refine blk_drew ?_ | refine blk_alloc ?_ _)); refine blk_far ?_ NB378_405.out _; (with_reducible repeat (first | refine blk_drewN ?_ _ | refine blk_drew ?_ | refine blk_alloc ?_ _)); refine blk_far ?_ NB378_405.out _; (with_reducible repeat (first | refine blk_drewN ?_ _ | refine blk_drew ?_ | refine blk_alloc ?_ _)); exact BK378.out) hb); replace BK379 := Aside0.mk (blk_below (g := gb379) (o := .cells #[.int .i64 a2_0, .int .i64 a2_1, .int .i64 a2_2] 50 (0, 0)) (by (with_reducible repeat (first | refine blk_drewN ?_ _ | refine blk_drew ?_ | refine blk_alloc ?_ _)); refine blk_far ?_ NB379_405.out _; (with_reducible repeat (first | refine blk_drewN ?_ _ | refine blk_drew ?_ | refine blk_alloc ?_ _)); refine blk_far ?_ NB379_405.out _; (with_reducible repeat (first | refine blk_drewN ?_ _ | refine blk_drew ?_ | refine blk_alloc ?_ _)); exact BK379.out) hb); replace BK386 := Aside0.mk (blk_below (g := gb386) (o := .cells #[.int .i64 t381, .int .i64 t382, .slice Ao21 t383.length co21] 24 (0, 0)) (by (with_reducible repeat (first | refine blk_drewN ?_ _ | refine blk_drew ?_ | refine blk_alloc ?_ _)); refine blk_far ?_ NB386_405.out _; (with_reducible repeat (first | refine blk_drewN ?_ _ | refine blk_drew ?_ | refine blk_alloc ?_ _)); refine blk_far ?_ NB386_405.out _; (with_reducible repeat (first | refine blk_drewN ?_ _ | refine blk_drew ?_ | refine blk_alloc ?_ _)); exact BK386.out) hb); replace BK389 := Aside0.mk (blk_below (g := gb389) (o := .cells #[.int .i64 t387, .int .i64 t388] 26 (0, 0)) (by (with_reducible repeat (first | refine blk_drewN ?_ _ | refine blk_drew ?_ | refine blk_alloc ?_ _)); refine blk_far ?_ NB389_405.out _; (with_reducible repeat (first | refine blk_drewN ?_ _ | refine blk_drew ?_ | refine blk_alloc ?_ _)); refine blk_far ?_ NB389_405.out _; (with_reducible repeat (first | refine blk_drewN ?_ _ | refine blk_drew ?_ | refine blk_alloc ?_ _)); exact BK389.out) hb); replace BK392 := Aside0.mk (blk_below (g := gb392) (o := .cells #[.int .i64 t390, .int .i64 t391] 26 (0, 0)) (by (with_reducible repeat (first | refine blk_drewN ?_ _ | refine blk_drew ?_ | refine blk_alloc ?_ _)); refine blk_far ?_ NB392_405.out _; (with_reducible repeat (first | refine blk_drewN ?_ _ | refine blk_drew ?_ | refine blk_alloc ?_ _)); refine blk_far ?_ NB392_405.out _; (with_reducible repeat (first | refine blk_drewN ?_ _ | refine blk_drew ?_ | refine blk_alloc ?_ _)); exact BK392.out) hb); replace BK395 := Aside0.mk (blk_below (g := gb395) (o := .cells #[.int .i64 t393, .int .i64 t394] 26 (0, 0)) (by (with_reducible repeat (first | refine blk_drewN ?_ _ | refine blk_drew ?_ | refine blk_alloc ?_ _)); refine blk_far ?_ NB395_405.out _; (with_reducible repeat (first | refine blk_drewN ?_ _ | refine blk_drew ?_ | refine blk_alloc ?_ _)); refine blk_far ?_ NB395_405.out _; (with_reducible repeat (first | refine blk_drewN ?_ _ | refine blk_drew ?_ | refine blk_alloc ?_ _)); exact BK395.out) hb); replace BK401 := Aside0.mk (blk_below (g := gb401) (o := .cells #[.int .i64 t398, .int .i64 t399] 26 (0, 0)) (by (with_reducible repeat (first | refine blk_drewN ?_ _ | refine blk_drew ?_ | refine blk_alloc ?_ _)); refine blk_far ?_ NB401_405.out _; (with_reducible repeat (first | refine blk_drewN ?_ _ | refine blk_drew ?_ | refine blk_alloc ?_ _)); refine blk_far ?_ NB401_405.out _; (with_reducible repeat (first | refine blk_drewN ?_ _ | refine blk_drew ?_ | refine blk_alloc ?_ _)); exact BK401.out) hb); replace BK405 := Aside0.mk (blk_below (g := gb405) (o := .cells #[.int .i64 t402, .int .i64 t403] 26 (0, 0)) (by (with_reducible repeat (first | refine blk_drewN ?_ _ | refine blk_drew ?_ | refine blk_alloc ?_ _)); refine blk_put (cs := #[.int .i64 t402, .int .i64 0]) ?_ 1 _ rfl; (with_reducible repeat (first | refine blk_drewN ?_ _ | refine blk_drew ?_ | refine blk_alloc ?_ _)); refine blk_put (cs := #[.int .i64 0, .int .i64 0]) ?_ 0 _ rfl; (with_reducible repeat (first | refine blk_drewN ?_ _ | refine blk_drew ?_ | refine blk_alloc ?_ _)); exact BK405.out) hb); replace HB := Aside0.mk (below_step (qW HB.out) hb); (try clear hb); (try clear hb2); (try clear hk); (try clear hi)) | ((with_reducible refine gate_dst (N := 18) rfl ?_); (try (refine gate_guard (by rfl) ?_; dsimp only)); refine box_event ?hg (N := 18) ?hd (cs := #[.int .i64 0, .int .i64 0]) (t := 26) ?hr ?_; (case hd => rfl); (case hg => rfl); (case hr => first | (go_simp; done) | (go_simp; rfl)); intro gb409 hg w128 hbox hb; replace HO_387002 := qE HO_387002 hb; have BK409 := Aside0.mk (hbox); have GW409 := qT HB hg; have GE409 := qS HB hg; replace HB := Aside0.mk (below_step (qW HB.out) hb); have NB378_409 := qL BK378 hg; have NB409_378 := qM BK378 hg; replace BK378 := qD BK378 hb; have NB379_409 := qL BK379 hg; have NB409_379 := qM BK379 hg; replace BK379 := qD BK379 hb; have NB386_409 := qL BK386 hg; have NB409_386 := qM BK386 hg; replace BK386 := qD BK386 hb; have NB389_409 := qL BK389 hg; have NB409_389 := qM BK389 hg; replace BK389 := qD BK389 hb; have NB392_409 := qL BK392 hg; have NB409_392 := qM BK392 hg; replace BK392 := qD BK392 hb; have NB395_409 := qL BK395 hg; have NB409_395 := qM BK395 hg; replace BK395 := qD BK395 hb; have NB401_409 := qL BK401 hg; have NB409_401 := qM BK401 hg; replace BK401 := qD BK401 hb; have NB405_409 := qL BK405 hg; have NB409_405 := qM BK405 hg; replace BK405 := qD BK405 hb; clear hb hbox hg; have hnb129 := NB409_378.out; have hnc129 := NB378_409.out; have hnb130 := NB409_379.out; have hnc130 := NB379_409.out; have hnb131 := NB409_386.out; have hnc131 := NB386_409.out; have hnb132 := NB409_389.out; have hnc132 := NB389_409.out; have hnb133 := NB409_392.out; have hnc133 := NB392_409.out; have hnb134 := NB409_395.out; have hnc134 := NB395_409.out; have hnb135 := NB409_401.out; have hnc135 := NB401_409.out; have hnb136 := NB409_405.out; have hnc136 := NB405_409.out; have hcz137_0 := qC BK409 0 rfl; have hcz137_1 := qC BK409 1 rfl; have hfz137_0 := blk_frozen BK409.out 0; have hfz137_1 := blk_frozen BK409.out 1; have hnb138 := NB386_378.out; have hnc138 := NB378_386.out; have hnb139 := NB386_379.out; have hnc139 := NB379_386.out; have hcz140_0 := qC BK386 0 rfl; have hcz140_1 := qC BK386 1 rfl; have hcz140_2 := qC BK386 2 rfl; have hfz140_0 := blk_frozen BK386.out 0; have hfz140_1 := blk_frozen BK386.out 1; have hfz140_2 := blk_frozen BK386.out 2; have hcz141_0 := qC BK389 0 rfl; have hcz141_1 := qC BK389 1 rfl; have hfz141_0 := blk_frozen BK389.out 0; have hfz141_1 := blk_frozen BK389.out 1; have hcz142_0 := qC BK401 0 rfl; have hcz142_1 := qC BK401 1 rfl; have hfz142_0 := blk_frozen BK401.out 0; have hfz142_1 := blk_frozen BK401.out 1) | ((with_reducible refine gate_callee (f := 24) rfl ?_); refine goesL_ (some 83) rfl rfl Try.func24 (by kernel_rfl) rfl #[.agg #[.int .i64 t381, .int .i64 t382, .slice Ao21 t383.length co21], .agg #[.int .i64 t387, .int .i64 t388], .agg #[.int .i64 t398, .int .i64 t399]] rfl (by (try simp only [List.map_toArray, List.map_cons, List.map_nil]); first | done | rfl | (simp only [List.length_drop, List.length_take]; rfl)) ?_; (with_reducible refine (meter_Cut.calls kj9 t381 t382 _ _ t383 t387 t388 t398 t399 t410 t413 _ ?side1 ?side2 A85.out).mono ?_); (case side1 => refine (Kd.R_reads' (e := 3) (base := w.heap.size) (ok := fun k_ => True) (n := t383.length) (c := co21) ?_).2.2; exact (qR ((Kd.R_mono (Kd.R_far (p := ⟨gb409, 1, none⟩) (Kd.R_far (p := ⟨gb409, 0, none⟩) (Kd.R_types HO_387002.out BK409.out (by decide)) (fun _ hk => hk.2) (.int .i64 t406)) (fun _ hk => hk.2) (.int .i64 t407)) (fun _ h_ => h_.1))))); (case side2 => exact (Kd.R_reads' HO_387002.out).2.1); rintro e w143 ⟨v411, rfl, ho0, hb⟩; refine ⟨_, rfl, ?_⟩; replace HO_387002 := Aside0.mk (Kd.R_below (qR ((Kd.R_mono (Kd.R_far (p := ⟨gb409, 1, none⟩) (Kd.R_far (p := ⟨gb409, 0, none⟩) (Kd.R_types HO_387002.out BK409.out (by decide)) (fun _ hk => hk.2) (.int .i64 t406)) (fun _ hk => hk.2) (.int .i64 t407)) (fun _ h_ => h_.1)))) hb); have HO412 := Aside0.mk (Kd.R_lower (Kd.R_newB (Kd.R_newB (Kd.R_newB (Kd.R_newB (Kd.R_newB (Kd.R_newB ho0 (g := gb389) (o := .cells #[.int .i64 t387, .int .i64 t388] 26 (0, 0)) (by (with_reducible repeat (first | refine blk_drewN ?_ _ | refine blk_drew ?_ | refine blk_alloc ?_ _)); refine blk_far ?_ NB389_409.out _; (with_reducible repeat (first | refine blk_drewN ?_ _ | refine blk_drew ?_ | refine blk_alloc ?_ _)); refine blk_far ?_ NB389_409.out _; (with_reducible repeat (first | refine blk_drewN ?_ _ | refine blk_drew ?_ | refine blk_alloc ?_ _)); exact BK389.out)) (g := gb392) (o := .cells #[.int .i64 t390, .int .i64 t391] 26 (0, 0)) (by (with_reducible repeat (first | refine blk_drewN ?_ _ | refine blk_drew ?_ | refine blk_alloc ?_ _)); refine blk_far ?_ NB392_409.out _; (with_reducible repeat (first | refine blk_drewN ?_ _ | refine blk_drew ?_ | refine blk_alloc ?_ _)); refine blk_far ?_ NB392_409.out _; (with_reducible repeat (first | refine blk_drewN ?_ _ | refine blk_drew ?_ | refine blk_alloc ?_ _)); exact BK392.out)) (g := gb395) (o := .cells #[.int .i64 t393, .int .i64 t394] 26 (0, 0)) (by (with_reducible repeat (first | refine blk_drewN ?_ _ | refine blk_drew ?_ | refine blk_alloc ?_ _)); refine blk_far ?_ NB395_409.out _; (with_reducible repeat (first | refine blk_drewN ?_ _ | refine blk_drew ?_ | refine blk_alloc ?_ _)); refine blk_far ?_ NB395_409.out _; (with_reducible repeat (first | refine blk_drewN ?_ _ | refine blk_drew ?_ | refine blk_alloc ?_ _)); exact BK395.out)) (g := gb401) (o := .cells #[.int .i64 t398, .int .i64 t399] 26 (0, 0)) (by (with_reducible repeat (first | refine blk_drewN ?_ _ | refine blk_drew ?_ | refine blk_alloc ?_ _)); refine blk_far ?_ NB401_409.out _; (with_reducible repeat (first | refine blk_drewN ?_ _ | refine blk_drew ?_ | refine blk_alloc ?_ _)); refine blk_far ?_ NB401_409.out _; (with_reducible repeat (first | refine blk_drewN ?_ _ | refine blk_drew ?_ | refine blk_alloc ?_ _)); exact BK401.out)) (g := gb405) (o := .cells #[.int .i64 t402, .int .i64 t403] 26 (0, 0)) (by (with_reducible repeat (first | refine blk_drewN ?_ _ | refine blk_drew ?_ | refine blk_alloc ?_ _)); refine blk_far ?_ NB405_409.out _; (with_reducible repeat (first | refine blk_drewN ?_ _ | refine blk_drew ?_ | refine blk_alloc ?_ _)); refine blk_far ?_ NB405_409.out _; (with_reducible repeat (first | refine blk_drewN ?_ _ | refine blk_drew ?_ | refine blk_alloc ?_ _)); exact BK405.out)) (g := gb409) (o := .cells #[.int .i64 t406, .int .i64 t407] 26 (0, 0)) (by (with_reducible repeat (first | refine blk_drewN ?_ _ | refine blk_drew ?_ | refine blk_alloc ?_ _)); refine blk_put (cs := #[.int .i64 t406, .int .i64 0]) ?_ 1 _ rfl; (with_reducible repeat (first | refine blk_drewN ?_ _ | refine blk_drew ?_ | refine blk_alloc ?_ _)); refine blk_put (cs := #[.int .i64 0, .int .i64 0]) ?_ 0 _ rfl; (with_reducible repeat (first | refine blk_drewN ?_ _ | refine blk_drew ?_ | refine blk_alloc ?_ _)); exact BK409.out)) (below_size (qW HB.out))); replace BK378 := Aside0.mk (blk_below (g := gb378) (o := .cells #[.int .i64 a0_0, .int .i64 a0_1, .slice A0_2 l0_2.length c0_2] 24 (0, 0)) (by (with_reducible repeat (first | refine blk_drewN ?_ _ | refine blk_drew ?_ | refine blk_alloc ?_ _)); refine blk_far ?_ NB378_409.out _; (with_reducible repeat (first | refine blk_drewN ?_ _ | refine blk_drew ?_ | refine blk_alloc ?_ _)); refine blk_far ?_ NB378_409.out _; (with_reducible repeat (first | refine blk_drewN ?_ _ | refine blk_drew ?_ | refine blk_alloc ?_ _)); exact BK378.out) hb); replace BK379 := Aside0.mk (blk_below (g := gb379) (o := .cells #[.int .i64 a2_0, .int .i64 a2_1, .int .i64 a2_2] 50 (0, 0)) (by (with_reducible repeat (first | refine blk_drewN ?_ _ | refine blk_drew ?_ | refine blk_alloc ?_ _)); refine blk_far ?_ NB379_409.out _; (with_reducible repeat (first | refine blk_drewN ?_ _ | refine blk_drew ?_ | refine blk_alloc ?_ _)); refine blk_far ?_ NB379_409.out _; (with_reducible repeat (first | refine blk_drewN ?_ _ | refine blk_drew ?_ | refine blk_alloc ?_ _)); exact BK379.out) hb); replace BK386 := Aside0.mk (blk_below (g := gb386) (o := .cells #[.int .i64 t381, .int .i64 t382, .slice Ao21 t383.length co21] 24 (0, 0)) (by (with_reducible repeat (first | refine blk_drewN ?_ _ | refine blk_drew ?_ | refine blk_alloc ?_ _)); refine blk_far ?_ NB386_409.out _; (with_reducible repeat (first | refine blk_drewN ?_ _ | refine blk_drew ?_ | refine blk_alloc ?_ _)); refine blk_far ?_ NB386_409.out _; (with_reducible repeat (first | refine blk_drewN ?_ _ | refine blk_drew ?_ | refine blk_alloc ?_ _)); exact BK386.out) hb); replace BK389 := Aside0.mk (blk_below (g := gb389) (o := .cells #[.int .i64 t387, .int .i64 t388] 26 (0, 0)) (by (with_reducible repeat (first | refine blk_drewN ?_ _ | refine blk_drew ?_ | refine blk_alloc ?_ _)); refine blk_far ?_ NB389_409.out _; (with_reducible repeat (first | refine blk_drewN ?_ _ | refine blk_drew ?_ | refine blk_alloc ?_ _)); refine blk_far ?_ NB389_409.out _; (with_reducible repeat (first | refine blk_drewN ?_ _ | refine blk_drew ?_ | refine blk_alloc ?_ _)); exact BK389.out) hb); replace BK392 := Aside0.mk (blk_below (g := gb392) (o := .cells #[.int .i64 t390, .int .i64 t391] 26 (0, 0)) (by (with_reducible repeat (first | refine blk_drewN ?_ _ | refine blk_drew ?_ | refine blk_alloc ?_ _)); refine blk_far ?_ NB392_409.out _; (with_reducible repeat (first | refine blk_drewN ?_ _ | refine blk_drew ?_ | refine blk_alloc ?_ _)); refine blk_far ?_ NB392_409.out _; (with_reducible repeat (first | refine blk_drewN ?_ _ | refine blk_drew ?_ | refine blk_alloc ?_ _)); exact BK392.out) hb); replace BK395 := Aside0.mk (blk_below (g := gb395) (o := .cells #[.int .i64 t393, .int .i64 t394] 26 (0, 0)) (by (with_reducible repeat (first | refine blk_drewN ?_ _ | refine blk_drew ?_ | refine blk_alloc ?_ _)); refine blk_far ?_ NB395_409.out _; (with_reducible repeat (first | refine blk_drewN ?_ _ | refine blk_drew ?_ | refine blk_alloc ?_ _)); refine blk_far ?_ NB395_409.out _; (with_reducible repeat (first | refine blk_drewN ?_ _ | refine blk_drew ?_ | refine blk_alloc ?_ _)); exact BK395.out) hb); replace BK401 := Aside0.mk (blk_below (g := gb401) (o := .cells #[.int .i64 t398, .int .i64 t399] 26 (0, 0)) (by (with_reducible repeat (first | refine blk_drewN ?_ _ | refine blk_drew ?_ | refine blk_alloc ?_ _)); refine blk_far ?_ NB401_409.out _; (with_reducible repeat (first | refine blk_drewN ?_ _ | refine blk_drew ?_ | refine blk_alloc ?_ _)); refine blk_far ?_ NB401_409.out _; (with_reducible repeat (first | refine blk_drewN ?_ _ | refine blk_drew ?_ | refine blk_alloc ?_ _)); exact BK401.out) hb); replace BK405 := Aside0.mk (blk_below (g := gb405) (o := .cells #[.int .i64 t402, .int .i64 t403] 26 (0, 0)) (by (with_reducible repeat (first | refine blk_drewN ?_ _ | refine blk_drew ?_ | refine blk_alloc ?_ _)); refine blk_far ?_ NB405_409.out _; (with_reducible repeat (first | refine blk_drewN ?_ _ | refine blk_drew ?_ | refine blk_alloc ?_ _)); refine blk_far ?_ NB405_409.out _; (with_reducible repeat (first | refine blk_drewN ?_ _ | refine blk_drew ?_ | refine blk_alloc ?_ _)); exact BK405.out) hb); replace BK409 := Aside0.mk (blk_below (g := gb409) (o := .cells #[.int .i64 t406, .int .i64 t407] 26 (0, 0)) (by (with_reducible repeat (first | refine blk_drewN ?_ _ | refine blk_drew ?_ | refine blk_alloc ?_ _)); refine blk_put (cs := #[.int .i64 t406, .int .i64 0]) ?_ 1 _ rfl; (with_reducible repeat (first | refine blk_drewN ?_ _ | refine blk_drew ?_ | refine blk_alloc ?_ _)); refine blk_put (cs := #[.int .i64 0, .int .i64 0]) ?_ 0 _ rfl; (with_reducible repeat (first | refine blk_drewN ?_ _ | refine blk_drew ?_ | refine blk_alloc ?_ _)); exact BK409.out) hb); replace HB := Aside0.mk (below_step (qW HB.out) hb); (try clear hb); (try clear hb2); (try clear hk); (try clear hi); (try clear ho0); have hcz144_0 := qC BK386 0 rfl; have hcz144_1 := qC BK386 1 rfl; have hcz144_2 := qC BK386 2 rfl; have hfz144_0 := blk_frozen BK386.out 0; have hfz144_1 := blk_frozen BK386.out 1; have hfz144_2 := blk_frozen BK386.out 2; have hcz145_0 := qC BK392 0 rfl; have hcz145_1 := qC BK392 1 rfl; have hfz145_0 := blk_frozen BK392.out 0; have hfz145_1 := blk_frozen BK392.out 1; have hcz146_0 := qC BK405 0 rfl; have hcz146_1 := qC BK405 1 rfl; have hfz146_0 := blk_frozen BK405.out 0; have hfz146_1 := blk_frozen BK405.out 1) | ((with_reducible refine gate_callee (f := 24) rfl ?_); refine goesL_ (some 90) rfl rfl Try.func24 (by kernel_rfl) rfl #[.agg #[.int .i64 t381, .int .i64 t382, .slice Ao21 t383.length co21], .agg #[.int .i64 t390, .int .i64 t391], .agg #[.int .i64 t402, .int .i64 t403]] rfl (by (try simp only [List.map_toArray, List.map_cons, List.map_nil]); first | done | rfl | (simp only [List.length_drop, List.length_take]; rfl)) ?_; (with_reducible refine (meter_Cut.calls kj9 t381 t382 _ _ t383 t390 t391 t402 t403 t414 t417 _ ?side1 ?side2 A86.out).mono ?_); (case side1 => repeat (first | exact (Kd.R_reads' HO_387002.out).2.2 | (with_reducible refine Kd.C_alloc ?_ _) | (with_reducible refine Kd.C_drewN ?_ _) | (with_reducible refine Kd.C_drew ?_))); (case side2 => exact (Kd.R_reads' HO_387002.out).2.1); rintro e w147 ⟨v415, rfl, ho0, hb⟩; refine ⟨_, rfl, ?_⟩; replace HO_387002 := qE HO_387002 hb; have HO416 := Aside0.mk (Kd.R_lower (Kd.R_newB (Kd.R_newB (Kd.R_newB (Kd.R_newB (Kd.R_newB (Kd.R_newB (Kd.R_new' ho0 (Kd.R_lt (qR HO412.out))) (qB BK389.out)) (qB BK392.out)) (qB BK395.out)) (qB BK401.out)) (qB BK405.out)) (qB BK409.out)) (below_size (qW HB.out))); replace HO412 := Aside0.mk (Kd.R_elder' (qR HO412.out) (Kd.R_base ho0) hb); replace BK378 := qD BK378 hb; replace BK379 := qD BK379 hb; replace BK386 := qD BK386 hb; replace BK389 := qD BK389 hb; replace BK392 := qD BK392 hb; replace BK395 := qD BK395 hb; replace BK401 := qD BK401 hb; replace BK405 := qD BK405 hb; replace BK409 := qD BK409 hb; replace HB := Aside0.mk (below_step (qW HB.out) hb); (try clear hb); (try clear hb2); (try clear hk); (try clear hi); (try clear ho0); have hcz148_0 := qC BK386 0 rfl; have hcz148_1 := qC BK386 1 rfl; have hcz148_2 := qC BK386 2 rfl; have hfz148_0 := blk_frozen BK386.out 0; have hfz148_1 := blk_frozen BK386.out 1; have hfz148_2 := blk_frozen BK386.out 2; have hcz149_0 := qC BK389 0 rfl; have hcz149_1 := qC BK389 1 rfl; have hfz149_0 := blk_frozen BK389.out 0; have hfz149_1 := blk_frozen BK389.out 1; have hcz150_0 := qC BK409 0 rfl; have hcz150_1 := qC BK409 1 rfl; have hfz150_0 := blk_frozen BK409.out 0; have hfz150_1 := blk_frozen BK409.out 1) | ((with_reducible refine gate_callee (f := 24) rfl ?_); refine goesL_ (some 97) rfl rfl Try.func24 (by kernel_rfl) rfl #[.agg #[.int .i64 t381, .int .i64 t382, .slice Ao21 t383.length co21], .agg #[.int .i64 t387, .int .i64 t388], .agg #[.int .i64 t406, .int .i64 t407]] rfl (by (try simp only [List.map_toArray, List.map_cons, List.map_nil]); first | done | rfl | (simp only [List.length_drop, List.length_take]; rfl)) ?_; (with_reducible refine (meter_Cut.calls kj9 t381 t382 _ _ t383 t387 t388 t406 t407 t418 t421 _ ?side1 ?side2 A87.out).mono ?_); (case side1 => repeat (first | exact (Kd.R_reads' HO_387002.out).2.2 | (with_reducible refine Kd.C_alloc ?_ _) | (with_reducible refine Kd.C_drewN ?_ _) | (with_reducible refine Kd.C_drew ?_))); (case side2 => exact (Kd.R_reads' HO_387002.out).2.1); rintro e w151 ⟨v419, rfl, ho0, hb⟩; refine ⟨_, rfl, ?_⟩; replace HO_387002 := qE HO_387002 hb; have HO420 := Aside0.mk (Kd.R_lower (Kd.R_newB (Kd.R_newB (Kd.R_newB (Kd.R_newB (Kd.R_newB (Kd.R_newB (Kd.R_new' (Kd.R_new' ho0 (Kd.R_lt (qR HO412.out))) (Kd.R_lt (qR HO416.out))) (qB BK389.out)) (qB BK392.out)) (qB BK395.out)) (qB BK401.out)) (qB BK405.out)) (qB BK409.out)) (below_size (qW HB.out))); replace HO412 := Aside0.mk (Kd.R_elder' (qR HO412.out) (Kd.R_base ho0) hb); replace HO416 := Aside0.mk (Kd.R_elder' (qR HO416.out) (Kd.R_base ho0) hb); replace BK378 := qD BK378 hb; replace BK379 := qD BK379 hb; replace BK386 := qD BK386 hb; replace BK389 := qD BK389 hb; replace BK392 := qD BK392 hb; replace BK395 := qD BK395 hb; replace BK401 := qD BK401 hb; replace BK405 := qD BK405 hb; replace BK409 := qD BK409 hb; replace HB := Aside0.mk (below_step (qW HB.out) hb); (try clear hb); (try clear hb2); (try clear hk); (try clear hi); (try clear ho0); have hcz152_0 := qC BK386 0 rfl; have hcz152_1 := qC BK386 1 rfl; have hcz152_2 := qC BK386 2 rfl; have hfz152_0 := blk_frozen BK386.out 0; have hfz152_1 := blk_frozen BK386.out 1; have hfz152_2 := blk_frozen BK386.out 2; have hcz153_0 := qC BK392 0 rfl; have hcz153_1 := qC BK392 1 rfl; have hfz153_0 := blk_frozen BK392.out 0; have hfz153_1 := blk_frozen BK392.out 1) | ((with_reducible refine gate_callee (f := 22) rfl ?_); refine goesL_ (some 103) rfl rfl Try.func22 (by kernel_rfl) rfl #[.agg #[.int .i64 t381, .int .i64 t382, .slice Ao21 t383.length co21], .agg #[.int .i64 t390, .int .i64 t391]] rfl (by (try simp only [List.map_toArray, List.map_cons, List.map_nil]); first | done | rfl | (simp only [List.length_drop, List.length_take]; rfl)) ?_; (with_reducible refine (meter_Weight.calls kj9 t381 t382 _ _ t383 t390 t391 t422 t423 _ ?side1 ?side2 A88.out).mono ?_); (case side1 => repeat (first | exact (Kd.R_reads' HO_387002.out).2.2 | (with_reducible refine Kd.C_alloc ?_ _) | (with_reducible refine Kd.C_drewN ?_ _) | (with_reducible refine Kd.C_drew ?_))); (case side2 => exact (Kd.R_reads' HO_387002.out).2.1); rintro e w154 ⟨rfl, hb⟩; refine ⟨_, rfl, ?_⟩; replace HO_387002 := qE HO_387002 hb; replace HO412 := qE HO412 hb; replace HO416 := qE HO416 hb; replace HO420 := qE HO420 hb; replace BK378 := qD BK378 hb; replace BK379 := qD BK379 hb; replace BK386 := qD BK386 hb; replace BK389 := qD BK389 hb; replace BK392 := qD BK392 hb; replace BK395 := qD BK395 hb; replace BK401 := qD BK401 hb; replace BK405 := qD BK405 hb; replace BK409 := qD BK409 hb; replace HB := Aside0.mk (below_step (qW HB.out) hb); (try clear hb); (try clear hb2); (try clear hk); (try clear hi)))
     (try simp only [Act.put, qa_, qz_, qs_])
     go_cut [131] (fun v131 wc => ∃ (kq : Nat) (x131_88 : Bool), v131 = .bool x131_88 ∧ Aside0 (partitalaw05_MeterParts.j1 kq t380 t410 t414 t418 t422 x131_88 = some r) ∧ Aside0 (kq ≤ kj9) ∧ Aside0 (Kd.R k26 26 wc w.heap.size (fun k_ => some k_ ≠ (v415 : Value).ownBlock ∧ some k_ ≠ (v419 : Value).ownBlock ∧ k_ ≠ gb389 ∧ k_ ≠ gb392 ∧ k_ ≠ gb395 ∧ k_ ≠ gb401 ∧ k_ ≠ gb405 ∧ k_ ≠ gb409) v411 t410) ∧ Aside0 (Kd.R k26 26 wc w.heap.size (fun k_ => some k_ ≠ (v411 : Value).ownBlock ∧ some k_ ≠ (v419 : Value).ownBlock ∧ k_ ≠ gb389 ∧ k_ ≠ gb392 ∧ k_ ≠ gb395 ∧ k_ ≠ gb401 ∧ k_ ≠ gb405 ∧ k_ ≠ gb409) v415 t414) ∧ Aside0 (Kd.R k26 26 wc w.heap.size (fun k_ => some k_ ≠ (v411 : Value).ownBlock ∧ some k_ ≠ (v415 : Value).ownBlock ∧ k_ ≠ gb389 ∧ k_ ≠ gb392 ∧ k_ ≠ gb395 ∧ k_ ≠ gb401 ∧ k_ ≠ gb405 ∧ k_ ≠ gb409) v419 t418) ∧ Aside0 (Kd.R (Kd.int .i64) 3 wc w.heap.size (fun _ => True) (.slice Ao21 t383.length co21) t383) ∧ Aside0 (wc.heap[gb378]? = some (.cells #[.int .i64 a0_0, .int .i64 a0_1, (.slice A0_2 l0_2.length c0_2)] 24 (0, 0))) ∧ Aside0 (wc.heap[gb379]? = some (.cells #[.int .i64 a2_0, .int .i64 a2_1, .int .i64 a2_2] 50 (0, 0))) ∧ Aside0 (wc.heap[gb386]? = some (.cells #[.int .i64 t381, .int .i64 t382, (.slice Ao21 t383.length co21)] 24 (0, 0))) ∧ Aside0 (wc.heap[gb389]? = some (.cells #[.int .i64 t387, .int .i64 t388] 26 (0, 0))) ∧ Aside0 (wc.heap[gb392]? = some (.cells #[.int .i64 t390, .int .i64 t391] 26 (0, 0))) ∧ Aside0 (wc.heap[gb395]? = some (.cells #[.int .i64 t393, .int .i64 t394] 26 (0, 0))) ∧ Aside0 (wc.heap[gb401]? = some (.cells #[.int .i64 t398, .int .i64 t399] 26 (0, 0))) ∧ Aside0 (wc.heap[gb405]? = some (.cells #[.int .i64 t402, .int .i64 t403] 26 (0, 0))) ∧ Aside0 (wc.heap[gb409]? = some (.cells #[.int .i64 t406, .int .i64 t407] 26 (0, 0))) ∧ Aside0 (Below w.heap.size w wc))
     case first =>
      have H := HC89.out
      clear HC89
      by_cases c155 : t400 = 0
      · rw [if_pos c155] at H
        have c155b0 : (t400 == 0) = true := beq_iff_eq.mpr c155
        have c155b1 : (t400 != 0) = false := bne_eq_false_iff_eq.mpr c155
        clear c155
        (first | rw [c155b0] | (simp only [i64_w, i32_w]; rw [c155b0]) | skip)
        by_cases c156 : t404 = 0
        · rw [if_pos c156] at H
          have c156b0 : (t404 == 0) = true := beq_iff_eq.mpr c156
          have c156b1 : (t404 != 0) = false := bne_eq_false_iff_eq.mpr c156
          clear c156
          by_cases c157 : t408 = 0
          · rw [if_pos c157] at H
            have c157b0 : (t408 == 0) = true := beq_iff_eq.mpr c157
            have c157b1 : (t408 != 0) = false := bne_eq_false_iff_eq.mpr c157
            clear c157
            by_cases c158 : t413 = 0
            · rw [if_pos c158] at H
              have c158b0 : (t413 == 0) = true := beq_iff_eq.mpr c158
              have c158b1 : (t413 != 0) = false := bne_eq_false_iff_eq.mpr c158
              clear c158
              by_cases c159 : t417 = 0
              · rw [if_pos c159] at H
                have c159b0 : (t417 == 0) = true := beq_iff_eq.mpr c159
                have c159b1 : (t417 != 0) = false := bne_eq_false_iff_eq.mpr c159
                clear c159
                by_cases c160 : t421 = 0
                · rw [if_pos c160] at H
                  have c160b0 : (t421 == 0) = true := beq_iff_eq.mpr c160
                  have c160b1 : (t421 != 0) = false := bne_eq_false_iff_eq.mpr c160
                  clear c160
                  have H' := Aside0.mk H
                  clear H
                  go_wp2
                  go_meet
                  case rel => exact ⟨_, ((t423 != 0)), (by first | rfl | (simp; done) | (simp [*]; done)), H', ⟨by have := HJ9.out; first | omega | exact Nat.le_refl _⟩, ⟨by (with_reducible repeat (first | apply Kd.R_alloc | apply Kd.R_drewN | apply Kd.R_drew)); exact Kd.R_mono HO412.out (fun _ hk => ⟨hk.1.2, ⟨hk.2, ⟨hk.1.1.1.1.1.1.1.2, ⟨hk.1.1.1.1.1.1.2, ⟨hk.1.1.1.1.1.2, ⟨hk.1.1.1.1.2, ⟨hk.1.1.1.2, hk.1.1.2⟩⟩⟩⟩⟩⟩⟩)⟩, ⟨by (with_reducible repeat (first | apply Kd.R_alloc | apply Kd.R_drewN | apply Kd.R_drew)); exact Kd.R_mono HO416.out (fun _ hk => ⟨hk.1.1.1.1.1.1.1.2, ⟨hk.2, ⟨hk.1.1.1.1.1.1.2, ⟨hk.1.1.1.1.1.2, ⟨hk.1.1.1.1.2, ⟨hk.1.1.1.2, ⟨hk.1.1.2, hk.1.2⟩⟩⟩⟩⟩⟩⟩)⟩, ⟨by (with_reducible repeat (first | apply Kd.R_alloc | apply Kd.R_drewN | apply Kd.R_drew)); exact Kd.R_mono HO420.out (fun _ hk => ⟨hk.1.1.1.1.1.1.1.2, ⟨hk.1.1.1.1.1.1.2, ⟨hk.1.1.1.1.1.2, ⟨hk.1.1.1.1.2, ⟨hk.1.1.1.2, ⟨hk.1.1.2, ⟨hk.1.2, hk.2⟩⟩⟩⟩⟩⟩⟩)⟩, ⟨by (with_reducible repeat (first | apply Kd.R_alloc | apply Kd.R_drewN | apply Kd.R_drew)); exact HO_387002.out⟩, ⟨by (with_reducible repeat (first | refine blk_drewN ?_ _ | refine blk_drew ?_ | refine blk_alloc ?_ _)); exact BK378.out⟩, ⟨by (with_reducible repeat (first | refine blk_drewN ?_ _ | refine blk_drew ?_ | refine blk_alloc ?_ _)); exact BK379.out⟩, ⟨by (with_reducible repeat (first | refine blk_drewN ?_ _ | refine blk_drew ?_ | refine blk_alloc ?_ _)); exact BK386.out⟩, ⟨by (with_reducible repeat (first | refine blk_drewN ?_ _ | refine blk_drew ?_ | refine blk_alloc ?_ _)); exact BK389.out⟩, ⟨by (with_reducible repeat (first | refine blk_drewN ?_ _ | refine blk_drew ?_ | refine blk_alloc ?_ _)); exact BK392.out⟩, ⟨by (with_reducible repeat (first | refine blk_drewN ?_ _ | refine blk_drew ?_ | refine blk_alloc ?_ _)); exact BK395.out⟩, ⟨by (with_reducible repeat (first | refine blk_drewN ?_ _ | refine blk_drew ?_ | refine blk_alloc ?_ _)); exact BK401.out⟩, ⟨by (with_reducible repeat (first | refine blk_drewN ?_ _ | refine blk_drew ?_ | refine blk_alloc ?_ _)); exact BK405.out⟩, ⟨by (with_reducible repeat (first | refine blk_drewN ?_ _ | refine blk_drew ?_ | refine blk_alloc ?_ _)); exact BK409.out⟩, ⟨by exact qW HB.out⟩⟩
                · rw [if_neg c160] at H
                  have c160b0 : (t421 == 0) = false := beq_eq_false_iff_ne.mpr c160
                  have c160b1 : (t421 != 0) = true := bne_iff_ne.mpr c160
                  have H' := Aside0.mk H
                  clear H
                  go_wp2
                  go_meet
                  case rel => exact ⟨_, (true), (by first | rfl | (simp; done) | (simp [*]; done)), H', ⟨by have := HJ9.out; first | omega | exact Nat.le_refl _⟩, ⟨by (with_reducible repeat (first | apply Kd.R_alloc | apply Kd.R_drewN | apply Kd.R_drew)); exact Kd.R_mono HO412.out (fun _ hk => ⟨hk.1.2, ⟨hk.2, ⟨hk.1.1.1.1.1.1.1.2, ⟨hk.1.1.1.1.1.1.2, ⟨hk.1.1.1.1.1.2, ⟨hk.1.1.1.1.2, ⟨hk.1.1.1.2, hk.1.1.2⟩⟩⟩⟩⟩⟩⟩)⟩, ⟨by (with_reducible repeat (first | apply Kd.R_alloc | apply Kd.R_drewN | apply Kd.R_drew)); exact Kd.R_mono HO416.out (fun _ hk => ⟨hk.1.1.1.1.1.1.1.2, ⟨hk.2, ⟨hk.1.1.1.1.1.1.2, ⟨hk.1.1.1.1.1.2, ⟨hk.1.1.1.1.2, ⟨hk.1.1.1.2, ⟨hk.1.1.2, hk.1.2⟩⟩⟩⟩⟩⟩⟩)⟩, ⟨by (with_reducible repeat (first | apply Kd.R_alloc | apply Kd.R_drewN | apply Kd.R_drew)); exact Kd.R_mono HO420.out (fun _ hk => ⟨hk.1.1.1.1.1.1.1.2, ⟨hk.1.1.1.1.1.1.2, ⟨hk.1.1.1.1.1.2, ⟨hk.1.1.1.1.2, ⟨hk.1.1.1.2, ⟨hk.1.1.2, ⟨hk.1.2, hk.2⟩⟩⟩⟩⟩⟩⟩)⟩, ⟨by (with_reducible repeat (first | apply Kd.R_alloc | apply Kd.R_drewN | apply Kd.R_drew)); exact HO_387002.out⟩, ⟨by (with_reducible repeat (first | refine blk_drewN ?_ _ | refine blk_drew ?_ | refine blk_alloc ?_ _)); exact BK378.out⟩, ⟨by (with_reducible repeat (first | refine blk_drewN ?_ _ | refine blk_drew ?_ | refine blk_alloc ?_ _)); exact BK379.out⟩, ⟨by (with_reducible repeat (first | refine blk_drewN ?_ _ | refine blk_drew ?_ | refine blk_alloc ?_ _)); exact BK386.out⟩, ⟨by (with_reducible repeat (first | refine blk_drewN ?_ _ | refine blk_drew ?_ | refine blk_alloc ?_ _)); exact BK389.out⟩, ⟨by (with_reducible repeat (first | refine blk_drewN ?_ _ | refine blk_drew ?_ | refine blk_alloc ?_ _)); exact BK392.out⟩, ⟨by (with_reducible repeat (first | refine blk_drewN ?_ _ | refine blk_drew ?_ | refine blk_alloc ?_ _)); exact BK395.out⟩, ⟨by (with_reducible repeat (first | refine blk_drewN ?_ _ | refine blk_drew ?_ | refine blk_alloc ?_ _)); exact BK401.out⟩, ⟨by (with_reducible repeat (first | refine blk_drewN ?_ _ | refine blk_drew ?_ | refine blk_alloc ?_ _)); exact BK405.out⟩, ⟨by (with_reducible repeat (first | refine blk_drewN ?_ _ | refine blk_drew ?_ | refine blk_alloc ?_ _)); exact BK409.out⟩, ⟨by exact qW HB.out⟩⟩
              · rw [if_neg c159] at H
                have c159b0 : (t417 == 0) = false := beq_eq_false_iff_ne.mpr c159
                have c159b1 : (t417 != 0) = true := bne_iff_ne.mpr c159
                have H' := Aside0.mk H
                clear H
                go_wp2
                go_meet
                case rel => exact ⟨_, (true), (by first | rfl | (simp; done) | (simp [*]; done)), H', ⟨by have := HJ9.out; first | omega | exact Nat.le_refl _⟩, ⟨by (with_reducible repeat (first | apply Kd.R_alloc | apply Kd.R_drewN | apply Kd.R_drew)); exact Kd.R_mono HO412.out (fun _ hk => ⟨hk.1.2, ⟨hk.2, ⟨hk.1.1.1.1.1.1.1.2, ⟨hk.1.1.1.1.1.1.2, ⟨hk.1.1.1.1.1.2, ⟨hk.1.1.1.1.2, ⟨hk.1.1.1.2, hk.1.1.2⟩⟩⟩⟩⟩⟩⟩)⟩, ⟨by (with_reducible repeat (first | apply Kd.R_alloc | apply Kd.R_drewN | apply Kd.R_drew)); exact Kd.R_mono HO416.out (fun _ hk => ⟨hk.1.1.1.1.1.1.1.2, ⟨hk.2, ⟨hk.1.1.1.1.1.1.2, ⟨hk.1.1.1.1.1.2, ⟨hk.1.1.1.1.2, ⟨hk.1.1.1.2, ⟨hk.1.1.2, hk.1.2⟩⟩⟩⟩⟩⟩⟩)⟩, ⟨by (with_reducible repeat (first | apply Kd.R_alloc | apply Kd.R_drewN | apply Kd.R_drew)); exact Kd.R_mono HO420.out (fun _ hk => ⟨hk.1.1.1.1.1.1.1.2, ⟨hk.1.1.1.1.1.1.2, ⟨hk.1.1.1.1.1.2, ⟨hk.1.1.1.1.2, ⟨hk.1.1.1.2, ⟨hk.1.1.2, ⟨hk.1.2, hk.2⟩⟩⟩⟩⟩⟩⟩)⟩, ⟨by (with_reducible repeat (first | apply Kd.R_alloc | apply Kd.R_drewN | apply Kd.R_drew)); exact HO_387002.out⟩, ⟨by (with_reducible repeat (first | refine blk_drewN ?_ _ | refine blk_drew ?_ | refine blk_alloc ?_ _)); exact BK378.out⟩, ⟨by (with_reducible repeat (first | refine blk_drewN ?_ _ | refine blk_drew ?_ | refine blk_alloc ?_ _)); exact BK379.out⟩, ⟨by (with_reducible repeat (first | refine blk_drewN ?_ _ | refine blk_drew ?_ | refine blk_alloc ?_ _)); exact BK386.out⟩, ⟨by (with_reducible repeat (first | refine blk_drewN ?_ _ | refine blk_drew ?_ | refine blk_alloc ?_ _)); exact BK389.out⟩, ⟨by (with_reducible repeat (first | refine blk_drewN ?_ _ | refine blk_drew ?_ | refine blk_alloc ?_ _)); exact BK392.out⟩, ⟨by (with_reducible repeat (first | refine blk_drewN ?_ _ | refine blk_drew ?_ | refine blk_alloc ?_ _)); exact BK395.out⟩, ⟨by (with_reducible repeat (first | refine blk_drewN ?_ _ | refine blk_drew ?_ | refine blk_alloc ?_ _)); exact BK401.out⟩, ⟨by (with_reducible repeat (first | refine blk_drewN ?_ _ | refine blk_drew ?_ | refine blk_alloc ?_ _)); exact BK405.out⟩, ⟨by (with_reducible repeat (first | refine blk_drewN ?_ _ | refine blk_drew ?_ | refine blk_alloc ?_ _)); exact BK409.out⟩, ⟨by exact qW HB.out⟩⟩
            · rw [if_neg c158] at H
              have c158b0 : (t413 == 0) = false := beq_eq_false_iff_ne.mpr c158
              have c158b1 : (t413 != 0) = true := bne_iff_ne.mpr c158
              have H' := Aside0.mk H
              clear H
              go_wp2
              go_meet
              case rel => exact ⟨_, (true), (by first | rfl | (simp; done) | (simp [*]; done)), H', ⟨by have := HJ9.out; first | omega | exact Nat.le_refl _⟩, ⟨by (with_reducible repeat (first | apply Kd.R_alloc | apply Kd.R_drewN | apply Kd.R_drew)); exact Kd.R_mono HO412.out (fun _ hk => ⟨hk.1.2, ⟨hk.2, ⟨hk.1.1.1.1.1.1.1.2, ⟨hk.1.1.1.1.1.1.2, ⟨hk.1.1.1.1.1.2, ⟨hk.1.1.1.1.2, ⟨hk.1.1.1.2, hk.1.1.2⟩⟩⟩⟩⟩⟩⟩)⟩, ⟨by (with_reducible repeat (first | apply Kd.R_alloc | apply Kd.R_drewN | apply Kd.R_drew)); exact Kd.R_mono HO416.out (fun _ hk => ⟨hk.1.1.1.1.1.1.1.2, ⟨hk.2, ⟨hk.1.1.1.1.1.1.2, ⟨hk.1.1.1.1.1.2, ⟨hk.1.1.1.1.2, ⟨hk.1.1.1.2, ⟨hk.1.1.2, hk.1.2⟩⟩⟩⟩⟩⟩⟩)⟩, ⟨by (with_reducible repeat (first | apply Kd.R_alloc | apply Kd.R_drewN | apply Kd.R_drew)); exact Kd.R_mono HO420.out (fun _ hk => ⟨hk.1.1.1.1.1.1.1.2, ⟨hk.1.1.1.1.1.1.2, ⟨hk.1.1.1.1.1.2, ⟨hk.1.1.1.1.2, ⟨hk.1.1.1.2, ⟨hk.1.1.2, ⟨hk.1.2, hk.2⟩⟩⟩⟩⟩⟩⟩)⟩, ⟨by (with_reducible repeat (first | apply Kd.R_alloc | apply Kd.R_drewN | apply Kd.R_drew)); exact HO_387002.out⟩, ⟨by (with_reducible repeat (first | refine blk_drewN ?_ _ | refine blk_drew ?_ | refine blk_alloc ?_ _)); exact BK378.out⟩, ⟨by (with_reducible repeat (first | refine blk_drewN ?_ _ | refine blk_drew ?_ | refine blk_alloc ?_ _)); exact BK379.out⟩, ⟨by (with_reducible repeat (first | refine blk_drewN ?_ _ | refine blk_drew ?_ | refine blk_alloc ?_ _)); exact BK386.out⟩, ⟨by (with_reducible repeat (first | refine blk_drewN ?_ _ | refine blk_drew ?_ | refine blk_alloc ?_ _)); exact BK389.out⟩, ⟨by (with_reducible repeat (first | refine blk_drewN ?_ _ | refine blk_drew ?_ | refine blk_alloc ?_ _)); exact BK392.out⟩, ⟨by (with_reducible repeat (first | refine blk_drewN ?_ _ | refine blk_drew ?_ | refine blk_alloc ?_ _)); exact BK395.out⟩, ⟨by (with_reducible repeat (first | refine blk_drewN ?_ _ | refine blk_drew ?_ | refine blk_alloc ?_ _)); exact BK401.out⟩, ⟨by (with_reducible repeat (first | refine blk_drewN ?_ _ | refine blk_drew ?_ | refine blk_alloc ?_ _)); exact BK405.out⟩, ⟨by (with_reducible repeat (first | refine blk_drewN ?_ _ | refine blk_drew ?_ | refine blk_alloc ?_ _)); exact BK409.out⟩, ⟨by exact qW HB.out⟩⟩
          · rw [if_neg c157] at H
            have c157b0 : (t408 == 0) = false := beq_eq_false_iff_ne.mpr c157
            have c157b1 : (t408 != 0) = true := bne_iff_ne.mpr c157
            have H' := Aside0.mk H
            clear H
            go_wp2
            go_meet
            case rel => exact ⟨_, (true), (by first | rfl | (simp; done) | (simp [*]; done)), H', ⟨by have := HJ9.out; first | omega | exact Nat.le_refl _⟩, ⟨by (with_reducible repeat (first | apply Kd.R_alloc | apply Kd.R_drewN | apply Kd.R_drew)); exact Kd.R_mono HO412.out (fun _ hk => ⟨hk.1.2, ⟨hk.2, ⟨hk.1.1.1.1.1.1.1.2, ⟨hk.1.1.1.1.1.1.2, ⟨hk.1.1.1.1.1.2, ⟨hk.1.1.1.1.2, ⟨hk.1.1.1.2, hk.1.1.2⟩⟩⟩⟩⟩⟩⟩)⟩, ⟨by (with_reducible repeat (first | apply Kd.R_alloc | apply Kd.R_drewN | apply Kd.R_drew)); exact Kd.R_mono HO416.out (fun _ hk => ⟨hk.1.1.1.1.1.1.1.2, ⟨hk.2, ⟨hk.1.1.1.1.1.1.2, ⟨hk.1.1.1.1.1.2, ⟨hk.1.1.1.1.2, ⟨hk.1.1.1.2, ⟨hk.1.1.2, hk.1.2⟩⟩⟩⟩⟩⟩⟩)⟩, ⟨by (with_reducible repeat (first | apply Kd.R_alloc | apply Kd.R_drewN | apply Kd.R_drew)); exact Kd.R_mono HO420.out (fun _ hk => ⟨hk.1.1.1.1.1.1.1.2, ⟨hk.1.1.1.1.1.1.2, ⟨hk.1.1.1.1.1.2, ⟨hk.1.1.1.1.2, ⟨hk.1.1.1.2, ⟨hk.1.1.2, ⟨hk.1.2, hk.2⟩⟩⟩⟩⟩⟩⟩)⟩, ⟨by (with_reducible repeat (first | apply Kd.R_alloc | apply Kd.R_drewN | apply Kd.R_drew)); exact HO_387002.out⟩, ⟨by (with_reducible repeat (first | refine blk_drewN ?_ _ | refine blk_drew ?_ | refine blk_alloc ?_ _)); exact BK378.out⟩, ⟨by (with_reducible repeat (first | refine blk_drewN ?_ _ | refine blk_drew ?_ | refine blk_alloc ?_ _)); exact BK379.out⟩, ⟨by (with_reducible repeat (first | refine blk_drewN ?_ _ | refine blk_drew ?_ | refine blk_alloc ?_ _)); exact BK386.out⟩, ⟨by (with_reducible repeat (first | refine blk_drewN ?_ _ | refine blk_drew ?_ | refine blk_alloc ?_ _)); exact BK389.out⟩, ⟨by (with_reducible repeat (first | refine blk_drewN ?_ _ | refine blk_drew ?_ | refine blk_alloc ?_ _)); exact BK392.out⟩, ⟨by (with_reducible repeat (first | refine blk_drewN ?_ _ | refine blk_drew ?_ | refine blk_alloc ?_ _)); exact BK395.out⟩, ⟨by (with_reducible repeat (first | refine blk_drewN ?_ _ | refine blk_drew ?_ | refine blk_alloc ?_ _)); exact BK401.out⟩, ⟨by (with_reducible repeat (first | refine blk_drewN ?_ _ | refine blk_drew ?_ | refine blk_alloc ?_ _)); exact BK405.out⟩, ⟨by (with_reducible repeat (first | refine blk_drewN ?_ _ | refine blk_drew ?_ | refine blk_alloc ?_ _)); exact BK409.out⟩, ⟨by exact qW HB.out⟩⟩
        · rw [if_neg c156] at H
          have c156b0 : (t404 == 0) = false := beq_eq_false_iff_ne.mpr c156
          have c156b1 : (t404 != 0) = true := bne_iff_ne.mpr c156
          have H' := Aside0.mk H
          clear H
          go_wp2
          go_meet
          case rel => exact ⟨_, (true), (by first | rfl | (simp; done) | (simp [*]; done)), H', ⟨by have := HJ9.out; first | omega | exact Nat.le_refl _⟩, ⟨by (with_reducible repeat (first | apply Kd.R_alloc | apply Kd.R_drewN | apply Kd.R_drew)); exact Kd.R_mono HO412.out (fun _ hk => ⟨hk.1.2, ⟨hk.2, ⟨hk.1.1.1.1.1.1.1.2, ⟨hk.1.1.1.1.1.1.2, ⟨hk.1.1.1.1.1.2, ⟨hk.1.1.1.1.2, ⟨hk.1.1.1.2, hk.1.1.2⟩⟩⟩⟩⟩⟩⟩)⟩, ⟨by (with_reducible repeat (first | apply Kd.R_alloc | apply Kd.R_drewN | apply Kd.R_drew)); exact Kd.R_mono HO416.out (fun _ hk => ⟨hk.1.1.1.1.1.1.1.2, ⟨hk.2, ⟨hk.1.1.1.1.1.1.2, ⟨hk.1.1.1.1.1.2, ⟨hk.1.1.1.1.2, ⟨hk.1.1.1.2, ⟨hk.1.1.2, hk.1.2⟩⟩⟩⟩⟩⟩⟩)⟩, ⟨by (with_reducible repeat (first | apply Kd.R_alloc | apply Kd.R_drewN | apply Kd.R_drew)); exact Kd.R_mono HO420.out (fun _ hk => ⟨hk.1.1.1.1.1.1.1.2, ⟨hk.1.1.1.1.1.1.2, ⟨hk.1.1.1.1.1.2, ⟨hk.1.1.1.1.2, ⟨hk.1.1.1.2, ⟨hk.1.1.2, ⟨hk.1.2, hk.2⟩⟩⟩⟩⟩⟩⟩)⟩, ⟨by (with_reducible repeat (first | apply Kd.R_alloc | apply Kd.R_drewN | apply Kd.R_drew)); exact HO_387002.out⟩, ⟨by (with_reducible repeat (first | refine blk_drewN ?_ _ | refine blk_drew ?_ | refine blk_alloc ?_ _)); exact BK378.out⟩, ⟨by (with_reducible repeat (first | refine blk_drewN ?_ _ | refine blk_drew ?_ | refine blk_alloc ?_ _)); exact BK379.out⟩, ⟨by (with_reducible repeat (first | refine blk_drewN ?_ _ | refine blk_drew ?_ | refine blk_alloc ?_ _)); exact BK386.out⟩, ⟨by (with_reducible repeat (first | refine blk_drewN ?_ _ | refine blk_drew ?_ | refine blk_alloc ?_ _)); exact BK389.out⟩, ⟨by (with_reducible repeat (first | refine blk_drewN ?_ _ | refine blk_drew ?_ | refine blk_alloc ?_ _)); exact BK392.out⟩, ⟨by (with_reducible repeat (first | refine blk_drewN ?_ _ | refine blk_drew ?_ | refine blk_alloc ?_ _)); exact BK395.out⟩, ⟨by (with_reducible repeat (first | refine blk_drewN ?_ _ | refine blk_drew ?_ | refine blk_alloc ?_ _)); exact BK401.out⟩, ⟨by (with_reducible repeat (first | refine blk_drewN ?_ _ | refine blk_drew ?_ | refine blk_alloc ?_ _)); exact BK405.out⟩, ⟨by (with_reducible repeat (first | refine blk_drewN ?_ _ | refine blk_drew ?_ | refine blk_alloc ?_ _)); exact BK409.out⟩, ⟨by exact qW HB.out⟩⟩
      · rw [if_neg c155] at H
        have c155b0 : (t400 == 0) = false := beq_eq_false_iff_ne.mpr c155
        have c155b1 : (t400 != 0) = true := bne_iff_ne.mpr c155
        (first | rw [c155b0] | (simp only [i64_w, i32_w]; rw [c155b0]) | skip)
        have H' := Aside0.mk H
        clear H
        go_wp2
        go_meet
        case rel => exact ⟨_, (true), (by first | rfl | (simp; done) | (simp [*]; done)), H', ⟨by have := HJ9.out; first | omega | exact Nat.le_refl _⟩, ⟨by (with_reducible repeat (first | apply Kd.R_alloc | apply Kd.R_drewN | apply Kd.R_drew)); exact Kd.R_mono HO412.out (fun _ hk => ⟨hk.1.2, ⟨hk.2, ⟨hk.1.1.1.1.1.1.1.2, ⟨hk.1.1.1.1.1.1.2, ⟨hk.1.1.1.1.1.2, ⟨hk.1.1.1.1.2, ⟨hk.1.1.1.2, hk.1.1.2⟩⟩⟩⟩⟩⟩⟩)⟩, ⟨by (with_reducible repeat (first | apply Kd.R_alloc | apply Kd.R_drewN | apply Kd.R_drew)); exact Kd.R_mono HO416.out (fun _ hk => ⟨hk.1.1.1.1.1.1.1.2, ⟨hk.2, ⟨hk.1.1.1.1.1.1.2, ⟨hk.1.1.1.1.1.2, ⟨hk.1.1.1.1.2, ⟨hk.1.1.1.2, ⟨hk.1.1.2, hk.1.2⟩⟩⟩⟩⟩⟩⟩)⟩, ⟨by (with_reducible repeat (first | apply Kd.R_alloc | apply Kd.R_drewN | apply Kd.R_drew)); exact Kd.R_mono HO420.out (fun _ hk => ⟨hk.1.1.1.1.1.1.1.2, ⟨hk.1.1.1.1.1.1.2, ⟨hk.1.1.1.1.1.2, ⟨hk.1.1.1.1.2, ⟨hk.1.1.1.2, ⟨hk.1.1.2, ⟨hk.1.2, hk.2⟩⟩⟩⟩⟩⟩⟩)⟩, ⟨by (with_reducible repeat (first | apply Kd.R_alloc | apply Kd.R_drewN | apply Kd.R_drew)); exact HO_387002.out⟩, ⟨by (with_reducible repeat (first | refine blk_drewN ?_ _ | refine blk_drew ?_ | refine blk_alloc ?_ _)); exact BK378.out⟩, ⟨by (with_reducible repeat (first | refine blk_drewN ?_ _ | refine blk_drew ?_ | refine blk_alloc ?_ _)); exact BK379.out⟩, ⟨by (with_reducible repeat (first | refine blk_drewN ?_ _ | refine blk_drew ?_ | refine blk_alloc ?_ _)); exact BK386.out⟩, ⟨by (with_reducible repeat (first | refine blk_drewN ?_ _ | refine blk_drew ?_ | refine blk_alloc ?_ _)); exact BK389.out⟩, ⟨by (with_reducible repeat (first | refine blk_drewN ?_ _ | refine blk_drew ?_ | refine blk_alloc ?_ _)); exact BK392.out⟩, ⟨by (with_reducible repeat (first | refine blk_drewN ?_ _ | refine blk_drew ?_ | refine blk_alloc ?_ _)); exact BK395.out⟩, ⟨by (with_reducible repeat (first | refine blk_drewN ?_ _ | refine blk_drew ?_ | refine blk_alloc ?_ _)); exact BK401.out⟩, ⟨by (with_reducible repeat (first | refine blk_drewN ?_ _ | refine blk_drew ?_ | refine blk_alloc ?_ _)); exact BK405.out⟩, ⟨by (with_reducible repeat (first | refine blk_drewN ?_ _ | refine blk_drew ?_ | refine blk_alloc ?_ _)); exact BK409.out⟩, ⟨by exact qW HB.out⟩⟩
     case rest =>
      clear HC89
      try clear c1
      try clear c2
      try clear p2
      try clear c3
      try clear c4
      try clear c5
      try clear c6
      try clear c7
      try clear c8
      try clear c9
      try clear c10
      try clear c11
      try clear c12
      try clear c13
      try clear c14
      try clear c15
      try clear c16
      try clear c18
      try clear c19
      try clear c21
      try clear c22
      try clear c24
      try clear c25
      try clear c26
      try clear c27
      try clear c29
      try clear c31
      try clear c33
      try clear c34
      try clear c35
      try clear c36
      try clear c42
      try clear c43
      try clear c44
      try clear c45
      try clear c46
      try clear c49
      try clear c49b0
      try clear c50
      try clear c51
      try clear c52
      try clear c53
      try clear c54
      try clear c56
      try clear c57
      try clear c58
      try clear c59
      try clear c63
      try clear c64
      try clear c65
      try clear c66
      try clear c67
      try clear c69
      try clear c70
      try clear c71
      try clear c72
      try clear c76
      try clear c77
      try clear c78
      try clear c81
      try clear c90
      try clear c91
      try clear c92
      try clear c93
      try clear c94
      try clear c96
      try clear c97
      try clear c98
      try clear c99
      try clear c103
      try clear c104
      try clear c105
      try clear c106
      try clear c107
      try clear c108
      try clear c110
      try clear c111
      try clear c112
      try clear c117
      try clear c118
      try clear c119
      try clear c120
      try clear c121
      try clear c122
      try clear c123
      try clear c129
      try clear c130
      try clear c131
      try clear c132
      try clear c133
      try clear c134
      try clear c135
      try clear c136
      try clear c138
      try clear c139
      try clear c155
      try clear c155b0
      try clear c155b1
      try clear c156
      try clear c156b0
      try clear c156b1
      try clear c157
      try clear c157b0
      try clear c157b1
      try clear c158
      try clear c158b0
      try clear c158b1
      try clear c159
      try clear c159b0
      try clear c159b1
      try clear c160
      try clear c160b0
      try clear c160b1
      try clear hcz100_0
      try clear hcz100_1
      try clear hcz109_0
      try clear hcz109_1
      try clear hcz113_0
      try clear hcz113_1
      try clear hcz114_0
      try clear hcz114_1
      try clear hcz124_0
      try clear hcz124_1
      try clear hcz125_0
      try clear hcz125_1
      try clear hcz126_0
      try clear hcz126_1
      try clear hcz137_0
      try clear hcz137_1
      try clear hcz140_0
      try clear hcz140_1
      try clear hcz140_2
      try clear hcz141_0
      try clear hcz141_1
      try clear hcz142_0
      try clear hcz142_1
      try clear hcz144_0
      try clear hcz144_1
      try clear hcz144_2
      try clear hcz145_0
      try clear hcz145_1
      try clear hcz146_0
      try clear hcz146_1
      try clear hcz148_0
      try clear hcz148_1
      try clear hcz148_2
      try clear hcz149_0
      try clear hcz149_1
      try clear hcz150_0
      try clear hcz150_1
      try clear hcz152_0
      try clear hcz152_1
      try clear hcz152_2
      try clear hcz153_0
      try clear hcz153_1
      try clear hcz15_0
      try clear hcz15_1
      try clear hcz15_2
      try clear hcz20_0
      try clear hcz20_1
      try clear hcz20_2
      try clear hcz22_0
      try clear hcz22_1
      try clear hcz22_2
      try clear hcz28_0
      try clear hcz28_1
      try clear hcz29_0
      try clear hcz29_1
      try clear hcz29_2
      try clear hcz30_0
      try clear hcz30_1
      try clear hcz30_2
      try clear hcz37_0
      try clear hcz37_1
      try clear hcz38_0
      try clear hcz38_1
      try clear hcz38_2
      try clear hcz39_0
      try clear hcz39_1
      try clear hcz39_2
      try clear hcz47_0
      try clear hcz47_1
      try clear hcz55_0
      try clear hcz55_1
      try clear hcz60_0
      try clear hcz60_1
      try clear hcz68_0
      try clear hcz68_1
      try clear hcz73_0
      try clear hcz73_1
      try clear hcz75_0
      try clear hcz75_1
      try clear hcz79_0
      try clear hcz79_1
      try clear hcz95_0
      try clear hcz95_1
      try clear hfz100_0
      try clear hfz100_1
      try clear hfz109_0
      try clear hfz109_1
      try clear hfz113_0
      try clear hfz113_1
      try clear hfz114_0
      try clear hfz114_1
      try clear hfz124_0
      try clear hfz124_1
      try clear hfz125_0
      try clear hfz125_1
      try clear hfz126_0
      try clear hfz126_1
      try clear hfz137_0
      try clear hfz137_1
      try clear hfz140_0
      try clear hfz140_1
      try clear hfz140_2
      try clear hfz141_0
      try clear hfz141_1
      try clear hfz142_0
      try clear hfz142_1
      try clear hfz144_0
      try clear hfz144_1
      try clear hfz144_2
      try clear hfz145_0
      try clear hfz145_1
      try clear hfz146_0
      try clear hfz146_1
      try clear hfz148_0
      try clear hfz148_1
      try clear hfz148_2
      try clear hfz149_0
      try clear hfz149_1
      try clear hfz150_0
      try clear hfz150_1
      try clear hfz152_0
      try clear hfz152_1
      try clear hfz152_2
      try clear hfz153_0
      try clear hfz153_1
      try clear hfz15_0
      try clear hfz15_1
      try clear hfz15_2
      try clear hfz20_0
      try clear hfz20_1
      try clear hfz20_2
      try clear hfz22_0
      try clear hfz22_1
      try clear hfz22_2
      try clear hfz28_0
      try clear hfz28_1
      try clear hfz29_0
      try clear hfz29_1
      try clear hfz29_2
      try clear hfz30_0
      try clear hfz30_1
      try clear hfz30_2
      try clear hfz37_0
      try clear hfz37_1
      try clear hfz38_0
      try clear hfz38_1
      try clear hfz38_2
      try clear hfz39_0
      try clear hfz39_1
      try clear hfz39_2
      try clear hfz47_0
      try clear hfz47_1
      try clear hfz55_0
      try clear hfz55_1
      try clear hfz60_0
      try clear hfz60_1
      try clear hfz68_0
      try clear hfz68_1
      try clear hfz73_0
      try clear hfz73_1
      try clear hfz75_0
      try clear hfz75_1
      try clear hfz79_0
      try clear hfz79_1
      try clear hfz95_0
      try clear hfz95_1
      try clear p2
      obtain ⟨kq, x131_88, rfl, HA, HJ88, HO_20, HO_22, HO_24, HO_387002, BK378, BK379, BK386, BK389, BK392, BK395, BK401, BK405, BK409, HB⟩ := hcut
      cases kq with
      | zero => exact absurd HA.out (by simp [partitalaw05_MeterParts.j1])
      | succ kj88 =>
       have H := HA.out
       clear HA
       simp only [partitalaw05_MeterParts.j1] at H
       by_cases c161 : x131_88 = true
       · subst c161
         have H1 : none = some r := by rw [if_pos rfl] at H; exact H
         cases H1
       · replace c161 := Bool.eq_false_iff.mpr c161
         subst c161
         have H1 : (if (t410.length : Int) = 0 then (partitalaw05_MeterParts.j2 kj88 t380 t410 t414 t418 t422 true) else (partitalaw05_MeterParts.j2 kj88 t380 t410 t414 t418 t422 ((t414.length : Int) == 0))) = some r := by rw [if_neg (show ¬ (false = true) by decide)] at H; exact H
         clear H
         have H := H1
         clear H1
         have HC162 := Aside0.mk H
         clear H
         go_upto_region 17 with (fail)
         go_cut [139] (fun v139 wc => ∃ (kq : Nat) (x139_161 : Bool), v139 = .bool x139_161 ∧ Aside0 (partitalaw05_MeterParts.j2 kq t380 t410 t414 t418 t422 x139_161 = some r) ∧ Aside0 (kq ≤ kj88) ∧ Aside0 (Kd.R k26 26 wc w.heap.size (fun k_ => some k_ ≠ (v415 : Value).ownBlock ∧ some k_ ≠ (v419 : Value).ownBlock ∧ k_ ≠ gb389 ∧ k_ ≠ gb392 ∧ k_ ≠ gb395 ∧ k_ ≠ gb401 ∧ k_ ≠ gb405 ∧ k_ ≠ gb409) v411 t410) ∧ Aside0 (Kd.R k26 26 wc w.heap.size (fun k_ => some k_ ≠ (v411 : Value).ownBlock ∧ some k_ ≠ (v419 : Value).ownBlock ∧ k_ ≠ gb389 ∧ k_ ≠ gb392 ∧ k_ ≠ gb395 ∧ k_ ≠ gb401 ∧ k_ ≠ gb405 ∧ k_ ≠ gb409) v415 t414) ∧ Aside0 (Kd.R k26 26 wc w.heap.size (fun k_ => some k_ ≠ (v411 : Value).ownBlock ∧ some k_ ≠ (v415 : Value).ownBlock ∧ k_ ≠ gb389 ∧ k_ ≠ gb392 ∧ k_ ≠ gb395 ∧ k_ ≠ gb401 ∧ k_ ≠ gb405 ∧ k_ ≠ gb409) v419 t418) ∧ Aside0 (Kd.R (Kd.int .i64) 3 wc w.heap.size (fun _ => True) (.slice Ao21 t383.length co21) t383) ∧ Aside0 (wc.heap[gb378]? = some (.cells #[.int .i64 a0_0, .int .i64 a0_1, (.slice A0_2 l0_2.length c0_2)] 24 (0, 0))) ∧ Aside0 (wc.heap[gb379]? = some (.cells #[.int .i64 a2_0, .int .i64 a2_1, .int .i64 a2_2] 50 (0, 0))) ∧ Aside0 (wc.heap[gb386]? = some (.cells #[.int .i64 t381, .int .i64 t382, (.slice Ao21 t383.length co21)] 24 (0, 0))) ∧ Aside0 (wc.heap[gb389]? = some (.cells #[.int .i64 t387, .int .i64 t388] 26 (0, 0))) ∧ Aside0 (wc.heap[gb392]? = some (.cells #[.int .i64 t390, .int .i64 t391] 26 (0, 0))) ∧ Aside0 (wc.heap[gb395]? = some (.cells #[.int .i64 t393, .int .i64 t394] 26 (0, 0))) ∧ Aside0 (wc.heap[gb401]? = some (.cells #[.int .i64 t398, .int .i64 t399] 26 (0, 0))) ∧ Aside0 (wc.heap[gb405]? = some (.cells #[.int .i64 t402, .int .i64 t403] 26 (0, 0))) ∧ Aside0 (wc.heap[gb409]? = some (.cells #[.int .i64 t406, .int .i64 t407] 26 (0, 0))) ∧ Aside0 (Below w.heap.size w wc))
         case first =>
          have H := HC162.out
          clear HC162
          by_cases c163 : (t410.length : Int) = 0
          · rw [if_pos c163] at H
            have c163b0 : ((t410.length : Int) == 0) = true := beq_iff_eq.mpr c163
            have c163b1 : ((t410.length : Int) != 0) = false := bne_eq_false_iff_eq.mpr c163
            clear c163
            (first | rw [c163b0] | (simp only [i64_w, i32_w]; rw [c163b0]) | skip)
            have H' := Aside0.mk H
            clear H
            obtain ⟨Ao164, co164, eo164⟩ := Kd.R_slice HO_20.out
            subst eo164
            go_wp2
            go_meet
            case rel => exact ⟨_, (true), (by first | rfl | (simp; done) | (simp [*]; done)), H', ⟨by have := HJ9.out; have := HJ88.out; first | omega | exact Nat.le_refl _⟩, ⟨by (with_reducible repeat (first | apply Kd.R_alloc | apply Kd.R_drewN | apply Kd.R_drew)); exact HO_20.out⟩, ⟨by (with_reducible repeat (first | apply Kd.R_alloc | apply Kd.R_drewN | apply Kd.R_drew)); exact HO_22.out⟩, ⟨by (with_reducible repeat (first | apply Kd.R_alloc | apply Kd.R_drewN | apply Kd.R_drew)); exact HO_24.out⟩, ⟨by (with_reducible repeat (first | apply Kd.R_alloc | apply Kd.R_drewN | apply Kd.R_drew)); exact HO_387002.out⟩, ⟨by (with_reducible repeat (first | refine blk_drewN ?_ _ | refine blk_drew ?_ | refine blk_alloc ?_ _)); exact BK378.out⟩, ⟨by (with_reducible repeat (first | refine blk_drewN ?_ _ | refine blk_drew ?_ | refine blk_alloc ?_ _)); exact BK379.out⟩, ⟨by (with_reducible repeat (first | refine blk_drewN ?_ _ | refine blk_drew ?_ | refine blk_alloc ?_ _)); exact BK386.out⟩, ⟨by (with_reducible repeat (first | refine blk_drewN ?_ _ | refine blk_drew ?_ | refine blk_alloc ?_ _)); exact BK389.out⟩, ⟨by (with_reducible repeat (first | refine blk_drewN ?_ _ | refine blk_drew ?_ | refine blk_alloc ?_ _)); exact BK392.out⟩, ⟨by (with_reducible repeat (first | refine blk_drewN ?_ _ | refine blk_drew ?_ | refine blk_alloc ?_ _)); exact BK395.out⟩, ⟨by (with_reducible repeat (first | refine blk_drewN ?_ _ | refine blk_drew ?_ | refine blk_alloc ?_ _)); exact BK401.out⟩, ⟨by (with_reducible repeat (first | refine blk_drewN ?_ _ | refine blk_drew ?_ | refine blk_alloc ?_ _)); exact BK405.out⟩, ⟨by (with_reducible repeat (first | refine blk_drewN ?_ _ | refine blk_drew ?_ | refine blk_alloc ?_ _)); exact BK409.out⟩, ⟨by exact qW HB.out⟩⟩
          · rw [if_neg c163] at H
            have c163b0 : ((t410.length : Int) == 0) = false := beq_eq_false_iff_ne.mpr c163
            have c163b1 : ((t410.length : Int) != 0) = true := bne_iff_ne.mpr c163
            have c163b2 : ¬ (t410 = []) := fun h_ => c163 (by rw [h_]; rfl)
            (first | rw [c163b0] | (simp only [i64_w, i32_w]; rw [c163b0]) | skip)
            have H' := Aside0.mk H
            clear H
            obtain ⟨Ao165, co165, eo165⟩ := Kd.R_slice HO_20.out
            subst eo165
            obtain ⟨Ao166, co166, eo166⟩ := Kd.R_slice HO_22.out
            subst eo166
            go_wp2
            go_meet
            case rel => exact ⟨_, (((t414.length : Int) == 0)), (by first | rfl | (simp; done) | (simp [*]; done)), H', ⟨by have := HJ9.out; have := HJ88.out; first | omega | exact Nat.le_refl _⟩, ⟨by (with_reducible repeat (first | apply Kd.R_alloc | apply Kd.R_drewN | apply Kd.R_drew)); exact HO_20.out⟩, ⟨by (with_reducible repeat (first | apply Kd.R_alloc | apply Kd.R_drewN | apply Kd.R_drew)); exact HO_22.out⟩, ⟨by (with_reducible repeat (first | apply Kd.R_alloc | apply Kd.R_drewN | apply Kd.R_drew)); exact HO_24.out⟩, ⟨by (with_reducible repeat (first | apply Kd.R_alloc | apply Kd.R_drewN | apply Kd.R_drew)); exact HO_387002.out⟩, ⟨by (with_reducible repeat (first | refine blk_drewN ?_ _ | refine blk_drew ?_ | refine blk_alloc ?_ _)); exact BK378.out⟩, ⟨by (with_reducible repeat (first | refine blk_drewN ?_ _ | refine blk_drew ?_ | refine blk_alloc ?_ _)); exact BK379.out⟩, ⟨by (with_reducible repeat (first | refine blk_drewN ?_ _ | refine blk_drew ?_ | refine blk_alloc ?_ _)); exact BK386.out⟩, ⟨by (with_reducible repeat (first | refine blk_drewN ?_ _ | refine blk_drew ?_ | refine blk_alloc ?_ _)); exact BK389.out⟩, ⟨by (with_reducible repeat (first | refine blk_drewN ?_ _ | refine blk_drew ?_ | refine blk_alloc ?_ _)); exact BK392.out⟩, ⟨by (with_reducible repeat (first | refine blk_drewN ?_ _ | refine blk_drew ?_ | refine blk_alloc ?_ _)); exact BK395.out⟩, ⟨by (with_reducible repeat (first | refine blk_drewN ?_ _ | refine blk_drew ?_ | refine blk_alloc ?_ _)); exact BK401.out⟩, ⟨by (with_reducible repeat (first | refine blk_drewN ?_ _ | refine blk_drew ?_ | refine blk_alloc ?_ _)); exact BK405.out⟩, ⟨by (with_reducible repeat (first | refine blk_drewN ?_ _ | refine blk_drew ?_ | refine blk_alloc ?_ _)); exact BK409.out⟩, ⟨by exact qW HB.out⟩⟩
         case rest =>
          clear HC162
          try clear c1
          try clear c2
          try clear p2
          try clear c3
          try clear c4
          try clear c5
          try clear c6
          try clear c7
          try clear c8
          try clear c9
          try clear c10
          try clear c11
          try clear c12
          try clear c13
          try clear c14
          try clear c15
          try clear c16
          try clear c18
          try clear c19
          try clear c21
          try clear c22
          try clear c24
          try clear c25
          try clear c26
          try clear c27
          try clear c29
          try clear c31
          try clear c33
          try clear c34
          try clear c35
          try clear c36
          try clear c42
          try clear c43
          try clear c44
          try clear c45
          try clear c46
          try clear c49
          try clear c49b0
          try clear c50
          try clear c51
          try clear c52
          try clear c53
          try clear c54
          try clear c56
          try clear c57
          try clear c58
          try clear c59
          try clear c63
          try clear c64
          try clear c65
          try clear c66
          try clear c67
          try clear c69
          try clear c70
          try clear c71
          try clear c72
          try clear c76
          try clear c77
          try clear c78
          try clear c81
          try clear c90
          try clear c91
          try clear c92
          try clear c93
          try clear c94
          try clear c96
          try clear c97
          try clear c98
          try clear c99
          try clear c103
          try clear c104
          try clear c105
          try clear c106
          try clear c107
          try clear c108
          try clear c110
          try clear c111
          try clear c112
          try clear c117
          try clear c118
          try clear c119
          try clear c120
          try clear c121
          try clear c122
          try clear c123
          try clear c129
          try clear c130
          try clear c131
          try clear c132
          try clear c133
          try clear c134
          try clear c135
          try clear c136
          try clear c138
          try clear c139
          try clear c155
          try clear c155b0
          try clear c155b1
          try clear c156
          try clear c156b0
          try clear c156b1
          try clear c157
          try clear c157b0
          try clear c157b1
          try clear c158
          try clear c158b0
          try clear c158b1
          try clear c159
          try clear c159b0
          try clear c159b1
          try clear c160
          try clear c160b0
          try clear c160b1
          try clear c161
          try clear c163
          try clear c163b0
          try clear c163b1
          try clear c163b2
          try clear hcz100_0
          try clear hcz100_1
          try clear hcz109_0
          try clear hcz109_1
          try clear hcz113_0
          try clear hcz113_1
          try clear hcz114_0
          try clear hcz114_1
          try clear hcz124_0
          try clear hcz124_1
          try clear hcz125_0
          try clear hcz125_1
          try clear hcz126_0
          try clear hcz126_1
          try clear hcz137_0
          try clear hcz137_1
          try clear hcz140_0
          try clear hcz140_1
          try clear hcz140_2
          try clear hcz141_0
          try clear hcz141_1
          try clear hcz142_0
          try clear hcz142_1
          try clear hcz144_0
          try clear hcz144_1
          try clear hcz144_2
          try clear hcz145_0
          try clear hcz145_1
          try clear hcz146_0
          try clear hcz146_1
          try clear hcz148_0
          try clear hcz148_1
          try clear hcz148_2
          try clear hcz149_0
          try clear hcz149_1
          try clear hcz150_0
          try clear hcz150_1
          try clear hcz152_0
          try clear hcz152_1
          try clear hcz152_2
          try clear hcz153_0
          try clear hcz153_1
          try clear hcz15_0
          try clear hcz15_1
          try clear hcz15_2
          try clear hcz20_0
          try clear hcz20_1
          try clear hcz20_2
          try clear hcz22_0
          try clear hcz22_1
          try clear hcz22_2
          try clear hcz28_0
          try clear hcz28_1
          try clear hcz29_0
          try clear hcz29_1
          try clear hcz29_2
          try clear hcz30_0
          try clear hcz30_1
          try clear hcz30_2
          try clear hcz37_0
          try clear hcz37_1
          try clear hcz38_0
          try clear hcz38_1
          try clear hcz38_2
          try clear hcz39_0
          try clear hcz39_1
          try clear hcz39_2
          try clear hcz47_0
          try clear hcz47_1
          try clear hcz55_0
          try clear hcz55_1
          try clear hcz60_0
          try clear hcz60_1
          try clear hcz68_0
          try clear hcz68_1
          try clear hcz73_0
          try clear hcz73_1
          try clear hcz75_0
          try clear hcz75_1
          try clear hcz79_0
          try clear hcz79_1
          try clear hcz95_0
          try clear hcz95_1
          try clear hfz100_0
          try clear hfz100_1
          try clear hfz109_0
          try clear hfz109_1
          try clear hfz113_0
          try clear hfz113_1
          try clear hfz114_0
          try clear hfz114_1
          try clear hfz124_0
          try clear hfz124_1
          try clear hfz125_0
          try clear hfz125_1
          try clear hfz126_0
          try clear hfz126_1
          try clear hfz137_0
          try clear hfz137_1
          try clear hfz140_0
          try clear hfz140_1
          try clear hfz140_2
          try clear hfz141_0
          try clear hfz141_1
          try clear hfz142_0
          try clear hfz142_1
          try clear hfz144_0
          try clear hfz144_1
          try clear hfz144_2
          try clear hfz145_0
          try clear hfz145_1
          try clear hfz146_0
          try clear hfz146_1
          try clear hfz148_0
          try clear hfz148_1
          try clear hfz148_2
          try clear hfz149_0
          try clear hfz149_1
          try clear hfz150_0
          try clear hfz150_1
          try clear hfz152_0
          try clear hfz152_1
          try clear hfz152_2
          try clear hfz153_0
          try clear hfz153_1
          try clear hfz15_0
          try clear hfz15_1
          try clear hfz15_2
          try clear hfz20_0
          try clear hfz20_1
          try clear hfz20_2
          try clear hfz22_0
          try clear hfz22_1
          try clear hfz22_2
          try clear hfz28_0
          try clear hfz28_1
          try clear hfz29_0
          try clear hfz29_1
          try clear hfz29_2
          try clear hfz30_0
          try clear hfz30_1
          try clear hfz30_2
          try clear hfz37_0
          try clear hfz37_1
          try clear hfz38_0
          try clear hfz38_1
          try clear hfz38_2
          try clear hfz39_0
          try clear hfz39_1
          try clear hfz39_2
          try clear hfz47_0
          try clear hfz47_1
          try clear hfz55_0
          try clear hfz55_1
          try clear hfz60_0
          try clear hfz60_1
          try clear hfz68_0
          try clear hfz68_1
          try clear hfz73_0
          try clear hfz73_1
          try clear hfz75_0
          try clear hfz75_1
          try clear hfz79_0
          try clear hfz79_1
          try clear hfz95_0
          try clear hfz95_1
          try clear p2
          obtain ⟨kq, x139_161, rfl, HA, HJ161, HO_20, HO_22, HO_24, HO_387002, BK378, BK379, BK386, BK389, BK392, BK395, BK401, BK405, BK409, HB⟩ := hcut
          cases kq with
          | zero => exact absurd HA.out (by simp [partitalaw05_MeterParts.j2])
          | succ kj161 =>
           have H := HA.out
           clear HA
           simp only [partitalaw05_MeterParts.j2] at H
           by_cases c167 : x139_161 = true
           · subst c167
             have H1 : none = some r := by rw [if_pos rfl] at H; exact H
             cases H1
           · replace c167 := Bool.eq_false_iff.mpr c167
             subst c167
             have H1 : (if t422 ≥ 2 then (if t380 = true then (if ([] : List (S26)).length + t410.length < 8796093022208 then ((some (([] : List (S26)) ++ t410 : List (S26))).bind fun y424 => (if y424.length + t414.length < 8796093022208 then ((partitaref05_Ratios.f kj161 t418 (y424 ++ t414)).bind fun t430 => (some t430)) else (none))) else (none)) else none) else (if 0 ≤ (wrap64 ((t410.length : Int) - 1)) then (if (wrap64 ((t410.length : Int) - 1)) < (t410.length : Int) then (if 0 < (t414.length : Int) then ((ratio_Add.f ((rd_T26 t410 (wrap64 ((t410.length : Int) - 1))).f0) ((rd_T26 t410 (wrap64 ((t410.length : Int) - 1))).f1) ((rd_T26 t414 0).f0) ((rd_T26 t414 0).f1)).bind fun bt433 => (if (wrap64 ((t410.length : Int) - 1)) ≤ (t410.length : Int) then ((some (t410.take ((wrap64 ((t410.length : Int) - 1)) : Int).toNat : List (S26))).bind fun y437 => (if ([] : List (S26)).length + y437.length < 8796093022208 then ((some (([] : List (S26)) ++ y437 : List (S26))).bind fun y441 => ((some (([(⟨bt433.1, bt433.2.1⟩ : S26)] : List (S26)) : List (S26))).bind fun y444 => (if y441.length + y444.length < 8796093022208 then ((some (y441 ++ y444 : List (S26))).bind fun y447 => (if t380 = true then (if bt433.2.2 = 0 then (if 1 ≤ (t414.length : Int) then ((some (t414.drop 1 : List (S26))).bind fun y450 => (if y447.length + y450.length < 8796093022208 then ((partitaref05_Ratios.f kj161 t418 (y447 ++ y450)).bind fun t457 => (some t457)) else (none))) else (none)) else none) else none)) else (none)))) else (none))) else (none))) else (none)) else (none)) else (none))) = some r := by rw [if_neg (show ¬ (false = true) by decide)] at H; exact H
             clear H
             have H := H1
             clear H1
             by_cases c168 : t422 ≥ 2
             · rw [if_pos c168] at H
               have c168b0 : decide (2 ≤ t422) = true := decide_eq_true c168
               clear c168
               by_cases c169 : t380 = true
               · subst c169
                 have H1 : (if ([] : List (S26)).length + t410.length < 8796093022208 then ((some (([] : List (S26)) ++ t410 : List (S26))).bind fun y424 => (if y424.length + t414.length < 8796093022208 then ((partitaref05_Ratios.f kj161 t418 (y424 ++ t414)).bind fun t430 => (some t430)) else (none))) else (none)) = some r := by rw [if_pos rfl] at H; exact H
                 clear H
                 have H := H1
                 clear H1
                 by_cases c170 : ([] : List (S26)).length + t410.length < 8796093022208
                 · rw [if_pos c170] at H
                   have LMc170 := Aside0.mk c170
                   clear c170
                   obtain ⟨y424, hy424⟩ : ∃ y_ : List (S26), y_ = (([] : List (S26)) ++ t410) := ⟨_, rfl⟩
                   replace H : (if y424.length + t414.length < 8796093022208 then ((partitaref05_Ratios.f kj161 t418 (y424 ++ t414)).bind fun t430 => (some t430)) else (none)) = some r := by first | (rw [hy424]; with_reducible exact H) | (have H2_ := (Option.bind_some _ _).symm.trans H; rw [hy424]; with_reducible exact H2_) | (have H2_ := (Option.bind_some _ _).symm.trans H; with_reducible exact H2_) | with_reducible exact H | (rw [hy424]; exact H) | exact H
                   have Ny424 := Aside0.mk hy424
                   clear hy424
                   by_cases c171 : y424.length + t414.length < 8796093022208
                   · rw [if_pos c171] at H
                     have LMc171 := Aside0.mk c171
                     clear c171
                     obtain ⟨y427, hy427⟩ : ∃ y_ : List (S26), y_ = (y424 ++ t414) := ⟨_, rfl⟩
                     replace H : ((partitaref05_Ratios.f kj161 t418 y427).bind fun t430 => (some t430)) = some r := by first | (rw [hy427]; with_reducible exact H) | (have H2_ := (Option.bind_some _ _).symm.trans H; rw [hy427]; with_reducible exact H2_) | (have H2_ := (Option.bind_some _ _).symm.trans H; with_reducible exact H2_) | with_reducible exact H | (rw [hy427]; exact H) | exact H
                     have Ny427 := Aside0.mk hy427
                     clear hy427
                     replace H := Option.bind_eq_some_iff.mp H
                     obtain ⟨t430, A1720, H⟩ := H
                     replace H : (some t430) = some r := H
                     have A172 := Aside0.mk A1720
                     clear A1720
                     obtain rfl := Option.some.inj H
                     obtain ⟨Ao174, co174, eo174⟩ := Kd.R_slice HO_20.out
                     subst eo174
                     go_wp2_with (first | ((with_reducible refine gate_builtin (b := .append) (xs := #[.const (.slice none 0 0), .tmp 145]) rfl ?_); (try (refine gate_guard (by rfl) ?_; dsimp only)); at_builtin; refine Kd.R_append_rows k26 (w0 := w) w.heap.size rfl (.const (.slice none 0 0)) (.tmp 145) 33 26 (.agg #[(.int .i64 0), (.int .i64 0)]) 16 rfl Try.underlying33 info26 rfl (by decide) (by omega) (.slice none 0 0) ([] : List (S26)) t410 _ _ _ (fun k_ => some k_ ≠ (.slice Ao174 t410.length co174 : Value).ownBlock ∧ some k_ ≠ (v415 : Value).ownBlock ∧ some k_ ≠ (v419 : Value).ownBlock ∧ k_ ≠ gb389 ∧ k_ ≠ gb392 ∧ k_ ≠ gb395 ∧ k_ ≠ gb401 ∧ k_ ≠ gb405 ∧ k_ ≠ gb409) (fun _ => False) rfl rfl ?aO ?aR (fun _ _ h => h) (fun _ h => h.elim) ?aF ?aB ?aS ?aL ?_; (case aR => repeat (first | exact (Kd.R_reads' HO_20.out).2.2 | (with_reducible refine Kd.C_alloc ?_ _) | (with_reducible refine Kd.C_drewN ?_ _) | (with_reducible refine Kd.C_drew ?_))); (case aB => exact (qW HB.out)); (case aF => exact (fun k_ hk => ⟨Kd.fresh' (Kd.R_lt (qR HO_20.out)) k_ hk, Kd.fresh' (Kd.R_lt (qR HO_22.out)) k_ hk, Kd.fresh' (Kd.R_lt (qR HO_24.out)) k_ hk, Kd.freshB (qB BK389.out) k_ hk, Kd.freshB (qB BK392.out) k_ hk, Kd.freshB (qB BK395.out) k_ hk, Kd.freshB (qB BK401.out) k_ hk, Kd.freshB (qB BK405.out) k_ hk, Kd.freshB (qB BK409.out) k_ hk⟩)); (case aO => exact ((Kd.R_nil _ _ _ _ (fun k_ => some k_ ≠ (.slice Ao174 t410.length co174 : Value).ownBlock ∧ some k_ ≠ (v415 : Value).ownBlock ∧ some k_ ≠ (v419 : Value).ownBlock ∧ k_ ≠ gb389 ∧ k_ ≠ gb392 ∧ k_ ≠ gb395 ∧ k_ ≠ gb401 ∧ k_ ≠ gb405 ∧ k_ ≠ gb409)))); (case aS => exact (below_size (qW HB.out))); (case aL => have := LMc170.out; omega); intro v425 w173 ho hb hg hat; rw [← Ny424.out] at ho; replace HO_20 := Aside0.mk (Kd.R_after (Kd.R_apart_nil (qR HO_20.out)) hg hat); replace HO_22 := Aside0.mk (Kd.R_after (Kd.R_apart_nil (qR HO_22.out)) hg hat); replace HO_24 := Aside0.mk (Kd.R_after (Kd.R_apart_nil (qR HO_24.out)) hg hat); replace HO_387002 := Aside0.mk (Kd.R_grown (qR HO_387002.out) hg (fun _ _ => by simp [Value.ownBlock])); replace BK378 := Aside0.mk (blk_grown (qB BK378.out) hg (by simp [Value.ownBlock])); replace BK379 := Aside0.mk (blk_grown (qB BK379.out) hg (by simp [Value.ownBlock])); replace BK386 := Aside0.mk (blk_grown (qB BK386.out) hg (by simp [Value.ownBlock])); replace BK389 := Aside0.mk (blk_grown (qB BK389.out) hg (by simp [Value.ownBlock])); replace BK392 := Aside0.mk (blk_grown (qB BK392.out) hg (by simp [Value.ownBlock])); replace BK395 := Aside0.mk (blk_grown (qB BK395.out) hg (by simp [Value.ownBlock])); replace BK401 := Aside0.mk (blk_grown (qB BK401.out) hg (by simp [Value.ownBlock])); replace BK405 := Aside0.mk (blk_grown (qB BK405.out) hg (by simp [Value.ownBlock])); replace BK409 := Aside0.mk (blk_grown (qB BK409.out) hg (by simp [Value.ownBlock])); replace HB := Aside0.mk (hb); have HO426 := Aside0.mk (ho); clear ho hb hg hat; obtain ⟨Ao176, co176, eo176⟩ := Kd.R_slice HO_22.out; subst eo176) | ((with_reducible refine gate_builtin (b := .append) (xs := #[.tmp 146, .tmp 147]) rfl ?_); (try (refine gate_guard (by rfl) ?_; dsimp only)); at_builtin; refine Kd.R_append_rows k26 (w0 := w) w.heap.size rfl (.tmp 146) (.tmp 147) 33 26 (.agg #[(.int .i64 0), (.int .i64 0)]) 16 rfl Try.underlying33 info26 rfl (by decide) (by omega) v425 y424 t414 _ _ _ (fun k_ => some k_ ≠ (.slice Ao174 t410.length co174 : Value).ownBlock ∧ some k_ ≠ (.slice Ao176 t414.length co176 : Value).ownBlock ∧ some k_ ≠ (v419 : Value).ownBlock ∧ k_ ≠ gb389 ∧ k_ ≠ gb392 ∧ k_ ≠ gb395 ∧ k_ ≠ gb401 ∧ k_ ≠ gb405 ∧ k_ ≠ gb409) (fun _ => False) rfl rfl ?aO ?aR (fun _ _ h => h) (fun _ h => h.elim) ?aF ?aB ?aS ?aL ?_; (case aR => repeat (first | exact (Kd.R_reads' HO_22.out).2.2 | (with_reducible refine Kd.C_alloc ?_ _) | (with_reducible refine Kd.C_drewN ?_ _) | (with_reducible refine Kd.C_drew ?_))); (case aB => exact (qW HB.out)); (case aF => exact (fun k_ hk => ⟨Kd.fresh' (Kd.R_lt (qR HO_20.out)) k_ hk, Kd.fresh' (Kd.R_lt (qR HO_22.out)) k_ hk, Kd.fresh' (Kd.R_lt (qR HO_24.out)) k_ hk, Kd.freshB (qB BK389.out) k_ hk, Kd.freshB (qB BK392.out) k_ hk, Kd.freshB (qB BK395.out) k_ hk, Kd.freshB (qB BK401.out) k_ hk, Kd.freshB (qB BK405.out) k_ hk, Kd.freshB (qB BK409.out) k_ hk⟩)); (case aO => exact (qR HO426.out)); (case aS => exact (below_size (qW HB.out))); (case aL => have := LMc171.out; omega); intro v428 w175 ho hb hg hat; rw [← Ny427.out] at ho; replace HO_20 := Aside0.mk (Kd.R_after (ok := (fun k_ => some k_ ≠ (.slice Ao176 t414.length co176 : Value).ownBlock ∧ some k_ ≠ (v419 : Value).ownBlock ∧ k_ ≠ gb389 ∧ k_ ≠ gb392 ∧ k_ ≠ gb395 ∧ k_ ≠ gb401 ∧ k_ ≠ gb405 ∧ k_ ≠ gb409)) (qR HO_20.out) hg hat); replace HO_22 := Aside0.mk (Kd.R_after (ok := (fun k_ => some k_ ≠ (.slice Ao174 t410.length co174 : Value).ownBlock ∧ some k_ ≠ (v419 : Value).ownBlock ∧ k_ ≠ gb389 ∧ k_ ≠ gb392 ∧ k_ ≠ gb395 ∧ k_ ≠ gb401 ∧ k_ ≠ gb405 ∧ k_ ≠ gb409)) (qR HO_22.out) hg hat); replace HO_24 := Aside0.mk (Kd.R_after (ok := (fun k_ => some k_ ≠ (.slice Ao174 t410.length co174 : Value).ownBlock ∧ some k_ ≠ (.slice Ao176 t414.length co176 : Value).ownBlock ∧ k_ ≠ gb389 ∧ k_ ≠ gb392 ∧ k_ ≠ gb395 ∧ k_ ≠ gb401 ∧ k_ ≠ gb405 ∧ k_ ≠ gb409)) (qR HO_24.out) hg hat); replace HO_387002 := Aside0.mk (Kd.R_over' (qR HO_387002.out) (Kd.R_typed (qR HO426.out)) (by decide) hg); replace BK378 := Aside0.mk (blk_grown (qB BK378.out) hg (Kd.R_ne HO426.out BK378.out (by decide))); replace BK379 := Aside0.mk (blk_grown (qB BK379.out) hg (Kd.R_ne HO426.out BK379.out (by decide))); replace BK386 := Aside0.mk (blk_grown (qB BK386.out) hg (Kd.R_ne HO426.out BK386.out (by decide))); replace BK389 := Aside0.mk (blk_grown (qB BK389.out) hg (Kd.R_away HO426.out (fun _ hk => hk.2.2.2.1))); replace BK392 := Aside0.mk (blk_grown (qB BK392.out) hg (Kd.R_away HO426.out (fun _ hk => hk.2.2.2.2.1))); replace BK395 := Aside0.mk (blk_grown (qB BK395.out) hg (Kd.R_away HO426.out (fun _ hk => hk.2.2.2.2.2.1))); replace BK401 := Aside0.mk (blk_grown (qB BK401.out) hg (Kd.R_away HO426.out (fun _ hk => hk.2.2.2.2.2.2.1))); replace BK405 := Aside0.mk (blk_grown (qB BK405.out) hg (Kd.R_away HO426.out (fun _ hk => hk.2.2.2.2.2.2.2.1))); replace BK409 := Aside0.mk (blk_grown (qB BK409.out) hg (Kd.R_away HO426.out (fun _ hk => hk.2.2.2.2.2.2.2.2))); replace HB := Aside0.mk (hb); have HO429 := Aside0.mk (ho); clear HO426; clear ho hb hg hat; obtain ⟨Ao177, co177, eo177⟩ := Kd.R_slice HO_24.out; subst eo177; obtain ⟨Ao178, co178, eo178⟩ := Kd.R_slice HO429.out; subst eo178) | (go_at_call 20; (with_reducible refine (partitaref05_Ratios.calls kj161 _ _ t418 _ _ y427 t430 _ ?side1 ?side2 ?side3 ?side4 A172.out).mono ?_); (case side1 => repeat (first | exact (Kd.R_reads' HO_24.out).2.2 | (with_reducible refine Kd.C_alloc ?_ _) | (with_reducible refine Kd.C_drewN ?_ _) | (with_reducible refine Kd.C_drew ?_))); (case side2 => exact (Kd.R_reads' HO_24.out).2.1); (case side3 => repeat (first | exact (Kd.R_reads' HO429.out).2.2 | (with_reducible refine Kd.C_alloc ?_ _) | (with_reducible refine Kd.C_drewN ?_ _) | (with_reducible refine Kd.C_drew ?_))); (case side4 => exact (Kd.R_reads' HO429.out).2.1); rintro e w' ⟨rfl, ⟨nd, rfl⟩⟩))
                     go_ret
                     exact ⟨by first | rfl | (simp [errW_none, errW_some] <;> rfl) | (simp [*, errW_none, errW_some] <;> rfl), by exact qW HB.out⟩
                   · rw [if_neg c171] at H
                     exact absurd H (by simp)
                 · rw [if_neg c170] at H
                   exact absurd H (by simp)
               · replace c169 := Bool.eq_false_iff.mpr c169
                 subst c169
                 have H1 : none = some r := by rw [if_neg (show ¬ (false = true) by decide)] at H; exact H
                 cases H1
             · rw [if_neg c168] at H
               have c168b0 : decide (2 ≤ t422) = false := decide_eq_false c168
               clear c168
               obtain ⟨ji179, hji179⟩ : ∃ j_ : Int, (wrap64 ((t410.length : Int) - 1)) = j_ := ⟨_, rfl⟩
               replace H : (if 0 ≤ (ji179) then (if (ji179) < (t410.length : Int) then (if 0 < (t414.length : Int) then ((ratio_Add.f ((rd_T26 t410 (ji179)).f0) ((rd_T26 t410 (ji179)).f1) ((rd_T26 t414 0).f0) ((rd_T26 t414 0).f1)).bind fun bt433 => (if (ji179) ≤ (t410.length : Int) then ((some (t410.take ((ji179) : Int).toNat : List (S26))).bind fun y437 => (if ([] : List (S26)).length + y437.length < 8796093022208 then ((some (([] : List (S26)) ++ y437 : List (S26))).bind fun y441 => ((some (([(⟨bt433.1, bt433.2.1⟩ : S26)] : List (S26)) : List (S26))).bind fun y444 => (if y441.length + y444.length < 8796093022208 then ((some (y441 ++ y444 : List (S26))).bind fun y447 => (if t380 = true then (if bt433.2.2 = 0 then (if 1 ≤ (t414.length : Int) then ((some (t414.drop 1 : List (S26))).bind fun y450 => (if y447.length + y450.length < 8796093022208 then ((partitaref05_Ratios.f kj161 t418 (y447 ++ y450)).bind fun t457 => (some t457)) else (none))) else (none)) else none) else none)) else (none)))) else (none))) else (none))) else (none)) else (none)) else (none)) = some r := by first | (rw [hji179] at H; exact H) | (simp only [hji179] at H ⊢; exact H)
               have hji179w : (IntKind.i64.wrap ((t410.length : Int) - 1)) = ji179 := (i64_w _).trans hji179
               by_cases c180 : 0 ≤ (ji179)
               · rw [if_pos c180] at H
                 have c180b0 : decide (0 ≤ (ji179)) = true := decide_eq_true c180
                 clear c180
                 by_cases c181 : (ji179) < (t410.length : Int)
                 · rw [if_pos c181] at H
                   have c181b0 : decide ((ji179) < (t410.length : Int)) = true := decide_eq_true c181
                   clear c181
                   by_cases c182 : 0 < (t414.length : Int)
                   · rw [if_pos c182] at H
                     have c182b0 : decide (0 < (t414.length : Int)) = true := decide_eq_true c182
                     have c182b1 : decide (0 < t414.length) = true := decide_eq_true (by omega)
                     clear c182
                     replace H := Option.bind_eq_some_iff.mp H
                     obtain ⟨⟨t433, t434, t435⟩, A1830, H⟩ := H
                     replace H : (if (ji179) ≤ (t410.length : Int) then ((some (t410.take ((ji179) : Int).toNat : List (S26))).bind fun y437 => (if ([] : List (S26)).length + y437.length < 8796093022208 then ((some (([] : List (S26)) ++ y437 : List (S26))).bind fun y441 => ((some (([(⟨t433, t434⟩ : S26)] : List (S26)) : List (S26))).bind fun y444 => (if y441.length + y444.length < 8796093022208 then ((some (y441 ++ y444 : List (S26))).bind fun y447 => (if t380 = true then (if t435 = 0 then (if 1 ≤ (t414.length : Int) then ((some (t414.drop 1 : List (S26))).bind fun y450 => (if y447.length + y450.length < 8796093022208 then ((partitaref05_Ratios.f kj161 t418 (y447 ++ y450)).bind fun t457 => (some t457)) else (none))) else (none)) else none) else none)) else (none)))) else (none))) else (none)) = some r := H
                     have A183 := Aside0.mk A1830
                     clear A1830
                     have c184b0 := eq_true (of_decide_eq_true (by first | (with_reducible assumption) | assumption) : 0 ≤ (ji179))
                     by_cases c185 : (ji179) ≤ (t410.length : Int)
                     · rw [if_pos c185] at H
                       have c185b0 := eq_true c185
                       have c185b1 : decide ((ji179) ≤ (t410.length : Int)) = true := decide_eq_true c185
                       clear c185
                       obtain ⟨y437, hy437⟩ : ∃ y_ : List (S26), y_ = (t410.take ((ji179) : Int).toNat) := ⟨_, rfl⟩
                       replace H : (if ([] : List (S26)).length + y437.length < 8796093022208 then ((some (([] : List (S26)) ++ y437 : List (S26))).bind fun y441 => ((some (([(⟨t433, t434⟩ : S26)] : List (S26)) : List (S26))).bind fun y444 => (if y441.length + y444.length < 8796093022208 then ((some (y441 ++ y444 : List (S26))).bind fun y447 => (if t380 = true then (if t435 = 0 then (if 1 ≤ (t414.length : Int) then ((some (t414.drop 1 : List (S26))).bind fun y450 => (if y447.length + y450.length < 8796093022208 then ((partitaref05_Ratios.f kj161 t418 (y447 ++ y450)).bind fun t457 => (some t457)) else (none))) else (none)) else none) else none)) else (none)))) else (none)) = some r := by first | (rw [hy437]; with_reducible exact H) | (have H2_ := (Option.bind_some _ _).symm.trans H; rw [hy437]; with_reducible exact H2_) | (have H2_ := (Option.bind_some _ _).symm.trans H; with_reducible exact H2_) | with_reducible exact H | (rw [hy437]; exact H) | exact H
                       have Ny437 := Aside0.mk hy437
                       clear hy437
                       by_cases c186 : ([] : List (S26)).length + y437.length < 8796093022208
                       · rw [if_pos c186] at H
                         have LMc186 := Aside0.mk c186
                         clear c186
                         obtain ⟨y441, hy441⟩ : ∃ y_ : List (S26), y_ = (([] : List (S26)) ++ y437) := ⟨_, rfl⟩
                         replace H : ((some (([(⟨t433, t434⟩ : S26)] : List (S26)) : List (S26))).bind fun y444 => (if y441.length + y444.length < 8796093022208 then ((some (y441 ++ y444 : List (S26))).bind fun y447 => (if t380 = true then (if t435 = 0 then (if 1 ≤ (t414.length : Int) then ((some (t414.drop 1 : List (S26))).bind fun y450 => (if y447.length + y450.length < 8796093022208 then ((partitaref05_Ratios.f kj161 t418 (y447 ++ y450)).bind fun t457 => (some t457)) else (none))) else (none)) else none) else none)) else (none))) = some r := by first | (rw [hy441]; with_reducible exact H) | (have H2_ := (Option.bind_some _ _).symm.trans H; rw [hy441]; with_reducible exact H2_) | (have H2_ := (Option.bind_some _ _).symm.trans H; with_reducible exact H2_) | with_reducible exact H | (rw [hy441]; exact H) | exact H
                         have Ny441 := Aside0.mk hy441
                         clear hy441
                         obtain ⟨y444, hy444⟩ : ∃ y_ : List (S26), y_ = (([(⟨t433, t434⟩ : S26)] : List (S26))) := ⟨_, rfl⟩
                         replace H : (if y441.length + y444.length < 8796093022208 then ((some (y441 ++ y444 : List (S26))).bind fun y447 => (if t380 = true then (if t435 = 0 then (if 1 ≤ (t414.length : Int) then ((some (t414.drop 1 : List (S26))).bind fun y450 => (if y447.length + y450.length < 8796093022208 then ((partitaref05_Ratios.f kj161 t418 (y447 ++ y450)).bind fun t457 => (some t457)) else (none))) else (none)) else none) else none)) else (none)) = some r := by first | (rw [hy444]; with_reducible exact H) | (have H2_ := (Option.bind_some _ _).symm.trans H; rw [hy444]; with_reducible exact H2_) | (have H2_ := (Option.bind_some _ _).symm.trans H; with_reducible exact H2_) | with_reducible exact H | (rw [hy444]; exact H) | exact H
                         have Ny444 := Aside0.mk hy444
                         clear hy444
                         by_cases c187 : y441.length + y444.length < 8796093022208
                         · rw [if_pos c187] at H
                           have LMc187 := Aside0.mk c187
                           clear c187
                           obtain ⟨y447, hy447⟩ : ∃ y_ : List (S26), y_ = (y441 ++ y444) := ⟨_, rfl⟩
                           replace H : (if t380 = true then (if t435 = 0 then (if 1 ≤ (t414.length : Int) then ((some (t414.drop 1 : List (S26))).bind fun y450 => (if y447.length + y450.length < 8796093022208 then ((partitaref05_Ratios.f kj161 t418 (y447 ++ y450)).bind fun t457 => (some t457)) else (none))) else (none)) else none) else none) = some r := by first | (rw [hy447]; with_reducible exact H) | (have H2_ := (Option.bind_some _ _).symm.trans H; rw [hy447]; with_reducible exact H2_) | (have H2_ := (Option.bind_some _ _).symm.trans H; with_reducible exact H2_) | with_reducible exact H | (rw [hy447]; exact H) | exact H
                           have Ny447 := Aside0.mk hy447
                           clear hy447
                           by_cases c188 : t380 = true
                           · subst c188
                             have H1 : (if t435 = 0 then (if 1 ≤ (t414.length : Int) then ((some (t414.drop 1 : List (S26))).bind fun y450 => (if y447.length + y450.length < 8796093022208 then ((partitaref05_Ratios.f kj161 t418 (y447 ++ y450)).bind fun t457 => (some t457)) else (none))) else (none)) else none) = some r := by rw [if_pos rfl] at H; exact H
                             clear H
                             have H := H1
                             clear H1
                             by_cases c189 : t435 = 0
                             · rw [if_pos c189] at H
                               have c189b0 : (t435 == 0) = true := beq_iff_eq.mpr c189
                               have c189b1 : (t435 != 0) = false := bne_eq_false_iff_eq.mpr c189
                               clear c189
                               by_cases c190 : 1 ≤ (t414.length : Int)
                               · rw [if_pos c190] at H
                                 have c190b0 := eq_true c190
                                 have c190b1 : decide (1 ≤ (t414.length : Int)) = true := decide_eq_true c190
                                 clear c190
                                 obtain ⟨y450, hy450⟩ : ∃ y_ : List (S26), y_ = (t414.drop 1) := ⟨_, rfl⟩
                                 replace H : (if y447.length + y450.length < 8796093022208 then ((partitaref05_Ratios.f kj161 t418 (y447 ++ y450)).bind fun t457 => (some t457)) else (none)) = some r := by first | (rw [hy450]; with_reducible exact H) | (have H2_ := (Option.bind_some _ _).symm.trans H; rw [hy450]; with_reducible exact H2_) | (have H2_ := (Option.bind_some _ _).symm.trans H; with_reducible exact H2_) | with_reducible exact H | (rw [hy450]; exact H) | exact H
                                 have Ny450 := Aside0.mk hy450
                                 clear hy450
                                 by_cases c191 : y447.length + y450.length < 8796093022208
                                 · rw [if_pos c191] at H
                                   have LMc191 := Aside0.mk c191
                                   clear c191
                                   obtain ⟨y454, hy454⟩ : ∃ y_ : List (S26), y_ = (y447 ++ y450) := ⟨_, rfl⟩
                                   replace H : ((partitaref05_Ratios.f kj161 t418 y454).bind fun t457 => (some t457)) = some r := by first | (rw [hy454]; with_reducible exact H) | (have H2_ := (Option.bind_some _ _).symm.trans H; rw [hy454]; with_reducible exact H2_) | (have H2_ := (Option.bind_some _ _).symm.trans H; with_reducible exact H2_) | with_reducible exact H | (rw [hy454]; exact H) | exact H
                                   have Ny454 := Aside0.mk hy454
                                   clear hy454
                                   replace H := Option.bind_eq_some_iff.mp H
                                   obtain ⟨t457, A1920, H⟩ := H
                                   replace H : (some t457) = some r := H
                                   have A192 := Aside0.mk A1920
                                   clear A1920
                                   obtain rfl := Option.some.inj H
                                   try go_wp2
                                   replace HO_20 := Aside0.mk (Kd.R_drew HO_20.out)
                                   replace HO_22 := Aside0.mk (Kd.R_drew HO_22.out)
                                   replace HO_24 := Aside0.mk (Kd.R_drew HO_24.out)
                                   replace HO_387002 := Aside0.mk (Kd.R_drew HO_387002.out)
                                   replace BK378 := Aside0.mk (blk_drew BK378.out)
                                   replace BK379 := Aside0.mk (blk_drew BK379.out)
                                   replace BK386 := Aside0.mk (blk_drew BK386.out)
                                   replace BK389 := Aside0.mk (blk_drew BK389.out)
                                   replace BK392 := Aside0.mk (blk_drew BK392.out)
                                   replace BK395 := Aside0.mk (blk_drew BK395.out)
                                   replace BK401 := Aside0.mk (blk_drew BK401.out)
                                   replace BK405 := Aside0.mk (blk_drew BK405.out)
                                   replace BK409 := Aside0.mk (blk_drew BK409.out)
                                   replace HB := Aside0.mk (below_drew1 HB.out)
                                   obtain ⟨Ao194, co194, eo194⟩ := Kd.R_slice HO_20.out
                                   (first | subst eo194 | (injection eo194 with f1_ f2_ f3_; have f4_ := f1_.symm; have f5_ := f3_.symm; clear f1_ f2_ f3_; subst f4_; subst f5_))
                                   have p431 : 0 ≤ ((ji179) : Int) := of_decide_eq_true (by first | (with_reducible assumption) | assumption)
                                   have q431 : (ji179) < (t410.length : Int) := of_decide_eq_true (by first | (with_reducible assumption) | assumption)
                                   obtain ⟨ad431, e431, hx431_0, hx431_1⟩ := at_T26 (Kd.R_reads' HO_20.out).2.2 (ji179) p431 q431
                                   cases e431
                                   replace p431 := eq_true p431
                                   replace q431 := eq_true q431
                                   obtain ⟨Ao195, co195, eo195⟩ := Kd.R_slice HO_22.out
                                   (first | subst eo195 | (injection eo195 with f1_ f2_ f3_; have f4_ := f1_.symm; have f5_ := f3_.symm; clear f1_ f2_ f3_; subst f4_; subst f5_))
                                   have p432 : 0 ≤ (0 : Int) := (by omega)
                                   have q432 : 0 < (t414.length : Int) := of_decide_eq_true (by first | (with_reducible assumption) | assumption)
                                   obtain ⟨ad432, e432, hx432_0, hx432_1⟩ := at_T26 (Kd.R_reads' HO_22.out).2.2 0 p432 q432
                                   cases e432
                                   have qi432 : (0 < t414.length) = True := eq_true (by omega)
                                   (try rw [show ((0 : Int)).toNat = 0 from rfl] at hx432_0)
                                   (try rw [show 0 * 2 = 0 from rfl] at hx432_0)
                                   (try rw [Addr.add_zero'] at hx432_0)
                                   (try rw [show ((0 : Int)).toNat = 0 from rfl] at hx432_1)
                                   (try rw [show 0 * 2 = 0 from rfl] at hx432_1)
                                   (try rw [Addr.add_zero'] at hx432_1)
                                   replace p432 := eq_true p432
                                   replace q432 := eq_true q432
                                   refine start_ (n := 16) (S := fun w' => w'.cell? (ad431.add (((ji179)).toNat * 2)) = some (.int .i64 ((rd_T26 t410 (ji179)).f0)) ∧ w'.cell? ⟨(ad431.add (((ji179)).toNat * 2)).block, (ad431.add (((ji179)).toNat * 2)).off + 1, none⟩ = some (.int .i64 ((rd_T26 t410 (ji179)).f1)) ∧ w'.cell? ad432 = some (.int .i64 ((rd_T26 t414 0).f0)) ∧ w'.cell? ⟨ad432.block, ad432.off + 1, none⟩ = some (.int .i64 ((rd_T26 t414 0).f1))) (ds := []) #[false, false, false, false, false, false, false, false, false, false, false, false, false, false, false, false] (by kernel_rfl) rfl rfl ⟨hx431_0, hx431_1, hx432_0, hx432_1⟩ (fun hHeld => ?_); refine with_tabW partitalaw05_MeterParts.tab21 partitalaw05_MeterParts.bits21 (fun HT_ HW_ => ?_)
                                   generalize wc.drew = w193 at HO_20 HO_22 HO_24 HO_387002 BK378 BK379 BK386 BK389 BK392 BK395 BK401 BK405 BK409 HB hx431_0 hx431_1 hx432_0 hx432_1 hHeld ⊢
                                   refine pure_ (i := 0) (N := some 152) (v := ?_) (a' := ?_) #[true, false, false, false, false, false, false, false, false, false, false, false, false, false, false, false] rfl rfl (any_of HT_.out (by kernel_rfl)) (fun _ _ _ h => h) (Or.inl ⟨by rfl, ?_⟩) ?_ ?_
                                   rotate_left
                                   · intro w'
                                     go_simp
                                     with_reducible rfl
                                   rotate_left
                                   · simp only [Act.put, qa_, qz_, qs_, i64_w, i32_w]
                                     rfl
                                   refine pure_ (i := 1) (N := some 153) (v := ?_) (a' := ?_) #[true, true, false, false, false, false, false, false, false, false, false, false, false, false, false, false] rfl rfl (any_of HT_.out (by kernel_rfl)) (fun _ _ _ h => h) (Or.inl ⟨by rfl, ?_⟩) ?_ ?_
                                   rotate_left
                                   · intro w'
                                     go_simp
                                     with_reducible rfl
                                   rotate_left
                                   · simp only [Act.put, qa_, qz_, qs_, i64_w, i32_w]
                                     rfl
                                   refine pure_ (i := 2) (N := some 154) (v := ?_) (a' := ?_) #[true, true, true, false, false, false, false, false, false, false, false, false, false, false, false, false] rfl rfl (any_of HT_.out (by kernel_rfl)) (fun _ _ _ h => h) (Or.inl ⟨by rfl, ?_⟩) ?_ ?_
                                   rotate_left
                                   · intro w'
                                     go_simp
                                     with_reducible rfl
                                   rotate_left
                                   · simp only [Act.put, qa_, qz_, qs_, i64_w, i32_w]
                                     rfl
                                   refine pure_ (i := 3) (N := some 155) (v := ?_) (a' := ?_) #[true, true, true, true, false, false, false, false, false, false, false, false, false, false, false, false] rfl rfl (any_of HT_.out (by kernel_rfl)) (fun _ _ _ h => h) (Or.inl ⟨by rfl, ?_⟩) ?_ ?_
                                   rotate_left
                                   · intro w'
                                     go_simp
                                     with_reducible rfl
                                   rotate_left
                                   · simp only [Act.put, qa_, qz_, qs_, i64_w, i32_w]
                                     rfl
                                   refine pure_ (i := 4) (N := some 156) (v := ?_) (a' := ?_) #[true, true, true, true, true, false, false, false, false, false, false, false, false, false, false, false] rfl rfl (any_of HT_.out (by kernel_rfl)) (fun _ _ _ h => h) (Or.inl ⟨by rfl, ?_⟩) ?_ ?_
                                   rotate_left
                                   · intro w'
                                     go_simp
                                     with_reducible rfl
                                   rotate_left
                                   · simp only [Act.put, qa_, qz_, qs_, i64_w, i32_w]
                                     rfl
                                   refine pure_ (i := 6) (N := some 158) (v := ?_) (a' := ?_) #[true, true, true, true, true, false, true, false, false, false, false, false, false, false, false, false] rfl rfl (any_of HT_.out (by kernel_rfl)) (fun _ _ _ h => h) (Or.inl ⟨by rfl, ?_⟩) ?_ ?_
                                   rotate_left
                                   · intro w'
                                     go_simp
                                     with_reducible rfl
                                   rotate_left
                                   · simp only [Act.put, qa_, qz_, qs_, i64_w, i32_w]
                                     rfl
                                   refine pure_ (i := 7) (N := some 159) (v := ?_) (a' := ?_) #[true, true, true, true, true, false, true, true, false, false, false, false, false, false, false, false] rfl rfl (any_of HT_.out (by kernel_rfl)) (fun _ _ _ h => h) (Or.inl ⟨by rfl, ?_⟩) ?_ ?_
                                   rotate_left
                                   · intro w'
                                     go_simp
                                     with_reducible rfl
                                   rotate_left
                                   · simp only [Act.put, qa_, qz_, qs_, i64_w, i32_w]
                                     rfl
                                   refine take_ (i := 5) (N := some 157) (v := ?_) (a' := ?_) #[true, true, true, true, true, true, true, true, false, false, false, false, false, false, false, false] rfl rfl (take_ofW HT_.out HW_.out (by kernel_rfl)) (fun _ _ _ h => h) (Or.inl ⟨by rfl, ?_⟩) hHeld ?_ ?_
                                   rotate_left
                                   · rintro w' ⟨s0, s1, s2, s3⟩
                                     go_simp
                                     with_reducible rfl
                                   rotate_left
                                   · simp only [Act.put, qa_, qz_, qs_, i64_w, i32_w]
                                     rfl
                                   refine take_ (i := 8) (N := some 160) (v := ?_) (a' := ?_) #[true, true, true, true, true, true, true, true, true, false, false, false, false, false, false, false] rfl rfl (take_ofW HT_.out HW_.out (by kernel_rfl)) (fun _ _ _ h => h) (Or.inl ⟨by rfl, ?_⟩) hHeld ?_ ?_
                                   rotate_left
                                   · rintro w' ⟨s0, s1, s2, s3⟩
                                     go_simp
                                     with_reducible rfl
                                   rotate_left
                                   · simp only [Act.put, qa_, qz_, qs_, i64_w, i32_w]
                                     rfl
                                   refine join_ (σ := Nat) 2 #[true, true, true, true, true, true, true, true, true, true, true, true, true, true, false, false] (fun s_ => [(161, .tuple #[.agg #[.int .i64 t433, .int .i64 t434], .int .i64 t435]), (28, .pointer (some ⟨s_, 0, none⟩)), (151, .tuple #[.agg #[.int .i64 t433, .int .i64 t434], .int .i64 t435]), (162, .agg #[.int .i64 t433, .int .i64 t434]), (163, .int .i64 t435)]) (fun s_ w' => (w'.cell? (ad431.add (((ji179)).toNat * 2)) = some (.int .i64 ((rd_T26 t410 (ji179)).f0)) ∧ w'.cell? ⟨(ad431.add (((ji179)).toNat * 2)).block, (ad431.add (((ji179)).toNat * 2)).off + 1, none⟩ = some (.int .i64 ((rd_T26 t410 (ji179)).f1)) ∧ w'.cell? ad432 = some (.int .i64 ((rd_T26 t414 0).f0)) ∧ w'.cell? ⟨ad432.block, ad432.off + 1, none⟩ = some (.int .i64 ((rd_T26 t414 0).f1))) ∧ (Kd.R k26 26 w' w.heap.size (fun k_ => some k_ ≠ (.slice (some ad432) t414.length co195 : Value).ownBlock ∧ some k_ ≠ (v419 : Value).ownBlock ∧ k_ ≠ gb389 ∧ k_ ≠ gb392 ∧ k_ ≠ gb395 ∧ k_ ≠ gb401 ∧ k_ ≠ gb405 ∧ k_ ≠ gb409 ∧ k_ ≠ s_) (.slice (some ad431) t410.length co194) t410) ∧ (Kd.R k26 26 w' w.heap.size (fun k_ => some k_ ≠ (.slice (some ad431) t410.length co194 : Value).ownBlock ∧ some k_ ≠ (v419 : Value).ownBlock ∧ k_ ≠ gb389 ∧ k_ ≠ gb392 ∧ k_ ≠ gb395 ∧ k_ ≠ gb401 ∧ k_ ≠ gb405 ∧ k_ ≠ gb409 ∧ k_ ≠ s_) (.slice (some ad432) t414.length co195) t414) ∧ (Kd.R k26 26 w' w.heap.size (fun k_ => some k_ ≠ (.slice (some ad431) t410.length co194 : Value).ownBlock ∧ some k_ ≠ (.slice (some ad432) t414.length co195 : Value).ownBlock ∧ k_ ≠ gb389 ∧ k_ ≠ gb392 ∧ k_ ≠ gb395 ∧ k_ ≠ gb401 ∧ k_ ≠ gb405 ∧ k_ ≠ gb409 ∧ k_ ≠ s_) v419 t418) ∧ (Kd.R (Kd.int .i64) 3 w' w.heap.size (fun _ => True) (.slice Ao21 t383.length co21) t383) ∧ (w'.heap[gb378]? = some (.cells #[.int .i64 a0_0, .int .i64 a0_1, .slice A0_2 l0_2.length c0_2] 24 (0, 0))) ∧ (w'.heap[gb379]? = some (.cells #[.int .i64 a2_0, .int .i64 a2_1, .int .i64 a2_2] 50 (0, 0))) ∧ (w'.heap[gb386]? = some (.cells #[.int .i64 t381, .int .i64 t382, .slice Ao21 t383.length co21] 24 (0, 0))) ∧ (w'.heap[gb389]? = some (.cells #[.int .i64 t387, .int .i64 t388] 26 (0, 0))) ∧ (w'.heap[gb392]? = some (.cells #[.int .i64 t390, .int .i64 t391] 26 (0, 0))) ∧ (w'.heap[gb395]? = some (.cells #[.int .i64 t393, .int .i64 t394] 26 (0, 0))) ∧ (w'.heap[gb401]? = some (.cells #[.int .i64 t398, .int .i64 t399] 26 (0, 0))) ∧ (w'.heap[gb405]? = some (.cells #[.int .i64 t402, .int .i64 t403] 26 (0, 0))) ∧ (w'.heap[gb409]? = some (.cells #[.int .i64 t406, .int .i64 t407] 26 (0, 0))) ∧ (w'.heap[s_]? = some (.cells #[.int .i64 0, .int .i64 0] 26 (0, 0))) ∧ (w.heap.size ≤ s_) ∧ (w.heap.size ≤ s_) ∧ (gb378 ≠ s_) ∧ (s_ ≠ gb378) ∧ (gb379 ≠ s_) ∧ (s_ ≠ gb379) ∧ (gb386 ≠ s_) ∧ (s_ ≠ gb386) ∧ (gb389 ≠ s_) ∧ (s_ ≠ gb389) ∧ (gb392 ≠ s_) ∧ (s_ ≠ gb392) ∧ (gb395 ≠ s_) ∧ (s_ ≠ gb395) ∧ (gb401 ≠ s_) ∧ (s_ ≠ gb401) ∧ (gb405 ≠ s_) ∧ (s_ ≠ gb405) ∧ (gb409 ≠ s_) ∧ (s_ ≠ gb409) ∧ (Below w.heap.size w w')) ?_ ?_
                                   rotate_left
                                   · intro hCont
                                     refine two_ (i := 9) (j := 13) (Ni := some 161) (Nj := some 28) #[true, true, true, true, true, true, true, true, true, true, false, false, false, false, false, false] #[true, true, true, true, true, true, true, true, true, false, false, false, false, true, false, false] rfl rfl rfl rfl (two_of HT_.out (by kernel_rfl)) (by decide) (by decide) (fun K hK => ?_) (fun K hK => ?_)
                                     · skip
                                       refine goes_ Try.func30 (by kernel_rfl) rfl #[.agg #[.int .i64 ((rd_T26 t410 (ji179)).f0), .int .i64 ((rd_T26 t410 (ji179)).f1)], .agg #[.int .i64 ((rd_T26 t414 0).f0), .int .i64 ((rd_T26 t414 0).f1)]] (by rfl) rfl rfl (by (try simp only [List.map_toArray, List.map_cons, List.map_nil]); first | done | (simp only [hji179]; rfl) | rfl | (simp only [List.length_drop, List.length_take]; rfl)) ?_
                                       with_reducible refine (ratio_Add.calls ((rd_T26 t410 (ji179)).f0) ((rd_T26 t410 (ji179)).f1) ((rd_T26 t414 0).f0) ((rd_T26 t414 0).f1) t433 t434 t435 _ A183.out).mono ?_
                                       rintro e w196 ⟨rfl, hb⟩
                                       have HS0_ := (hb.cell (World.block_lt_of_cell? _ _ (hHeld.1))).trans (hHeld.1)
                                       have HS1_ := (hb.cell (World.block_lt_of_cell? _ _ (hHeld.2.1))).trans (hHeld.2.1)
                                       have HS2_ := (hb.cell (World.block_lt_of_cell? _ _ (hHeld.2.2.1))).trans (hHeld.2.2.1)
                                       have HS3_ := (hb.cell (World.block_lt_of_cell? _ _ (hHeld.2.2.2))).trans (hHeld.2.2.2)
                                       refine ⟨_, rfl, ?_⟩
                                       replace HO_20 := qE HO_20 hb
                                       replace HO_22 := qE HO_22 hb
                                       replace HO_24 := qE HO_24 hb
                                       replace HO_387002 := qE HO_387002 hb
                                       replace BK378 := qD BK378 hb
                                       replace BK379 := qD BK379 hb
                                       replace BK386 := qD BK386 hb
                                       replace BK389 := qD BK389 hb
                                       replace BK392 := qD BK392 hb
                                       replace BK395 := qD BK395 hb
                                       replace BK401 := qD BK401 hb
                                       replace BK405 := qD BK405 hb
                                       replace BK409 := qD BK409 hb
                                       replace HB := Aside0.mk (below_step (qW HB.out) hb)
                                       (try clear hb)
                                       (try clear hb2)
                                       (try clear hk)
                                       (try clear hi)
                                       refine hK.out _ _ ⟨HS0_, HS1_, HS2_, HS3_⟩ (fun hHeld => ?_)
                                       clear hK K
                                       refine norm_ (a' := ?_) ?_ ?_
                                       rotate_left
                                       · show Act.put _ (some 161) _ = _
                                         simp only [Act.put, qa_, qz_, qs_, i64_w, i32_w]
                                         rfl
                                       refine pure_ (i := 10) (N := some 151) (v := ?_) (a' := ?_) #[true, true, true, true, true, true, true, true, true, true, true, false, false, false, false, false] rfl rfl (any_of HT_.out (by kernel_rfl)) (fun _ _ _ h => h) (Or.inl ⟨by rfl, ?_⟩) ?_ ?_
                                       rotate_left
                                       · intro w'
                                         go_simp
                                         with_reducible rfl
                                       rotate_left
                                       · simp only [Act.put, qa_, qz_, qs_, i64_w, i32_w]
                                         rfl
                                       refine pure_ (i := 11) (N := some 162) (v := ?_) (a' := ?_) #[true, true, true, true, true, true, true, true, true, true, true, true, false, false, false, false] rfl rfl (any_of HT_.out (by kernel_rfl)) (fun _ _ _ h => h) (Or.inl ⟨by rfl, ?_⟩) ?_ ?_
                                       rotate_left
                                       · intro w'
                                         go_simp
                                         with_reducible rfl
                                       rotate_left
                                       · simp only [Act.put, qa_, qz_, qs_, i64_w, i32_w]
                                         rfl
                                       refine pure_ (i := 12) (N := some 163) (v := ?_) (a' := ?_) #[true, true, true, true, true, true, true, true, true, true, true, true, true, false, false, false] rfl rfl (any_of HT_.out (by kernel_rfl)) (fun _ _ _ h => h) (Or.inl ⟨by rfl, ?_⟩) ?_ ?_
                                       rotate_left
                                       · intro w'
                                         go_simp
                                         with_reducible rfl
                                       rotate_left
                                       · simp only [Act.put, qa_, qz_, qs_, i64_w, i32_w]
                                         rfl
                                       refine one_ (i := 13) (N := some 28) #[true, true, true, true, true, true, true, true, true, true, true, true, true, true, false, false] rfl rfl (one_of HT_.out (by kernel_rfl)) (by decide) (fun K hK => ?_)
                                       refine box_step ?hg (N := 28) ?hd (cs := #[.int .i64 0, .int .i64 0]) (t := 26) ?hr ?_; (case hd => rfl); (case hg => rfl); (case hr => first | (go_simp; done) | (go_simp; rfl))
                                       intro gb436 hg w197 hbox hb
                                       have HS0_ := (hb.cell (World.block_lt_of_cell? _ _ (hHeld.1))).trans (hHeld.1)
                                       have HS1_ := (hb.cell (World.block_lt_of_cell? _ _ (hHeld.2.1))).trans (hHeld.2.1)
                                       have HS2_ := (hb.cell (World.block_lt_of_cell? _ _ (hHeld.2.2.1))).trans (hHeld.2.2.1)
                                       have HS3_ := (hb.cell (World.block_lt_of_cell? _ _ (hHeld.2.2.2))).trans (hHeld.2.2.2)
                                       replace HO_20 := Aside0.mk (Kd.R_below (Kd.R_elderB (qR HO_20.out) gb436 (Nat.le_of_eq hg.symm)) hb)
                                       replace HO_22 := Aside0.mk (Kd.R_below (Kd.R_elderB (qR HO_22.out) gb436 (Nat.le_of_eq hg.symm)) hb)
                                       replace HO_24 := Aside0.mk (Kd.R_below (Kd.R_elderB (qR HO_24.out) gb436 (Nat.le_of_eq hg.symm)) hb)
                                       replace HO_387002 := qE HO_387002 hb
                                       have BK436 := Aside0.mk (hbox)
                                       have GW436 := qT HB hg
                                       have GE436 := qS HB hg
                                       replace HB := Aside0.mk (below_step (qW HB.out) hb)
                                       have NB378_436 := qL BK378 hg
                                       have NB436_378 := qM BK378 hg
                                       replace BK378 := qD BK378 hb
                                       have NB379_436 := qL BK379 hg
                                       have NB436_379 := qM BK379 hg
                                       replace BK379 := qD BK379 hb
                                       have NB386_436 := qL BK386 hg
                                       have NB436_386 := qM BK386 hg
                                       replace BK386 := qD BK386 hb
                                       have NB389_436 := qL BK389 hg
                                       have NB436_389 := qM BK389 hg
                                       replace BK389 := qD BK389 hb
                                       have NB392_436 := qL BK392 hg
                                       have NB436_392 := qM BK392 hg
                                       replace BK392 := qD BK392 hb
                                       have NB395_436 := qL BK395 hg
                                       have NB436_395 := qM BK395 hg
                                       replace BK395 := qD BK395 hb
                                       have NB401_436 := qL BK401 hg
                                       have NB436_401 := qM BK401 hg
                                       replace BK401 := qD BK401 hb
                                       have NB405_436 := qL BK405 hg
                                       have NB436_405 := qM BK405 hg
                                       replace BK405 := qD BK405 hb
                                       have NB409_436 := qL BK409 hg
                                       have NB436_409 := qM BK409 hg
                                       replace BK409 := qD BK409 hb
                                       clear hb hbox hg
                                       refine hK.out _ _ ⟨HS0_, HS1_, HS2_, HS3_⟩ (fun hHeld => ?_)
                                       clear hK K
                                       refine norm_ (a' := ?_) ?_ ?_
                                       rotate_left
                                       · show Act.put _ (some 28) _ = _
                                         simp only [Act.put, qa_, qz_, qs_, i64_w, i32_w]
                                         rfl
                                       exact norm_ (by simp only [putAll, Act.put, qa_, qz_, qs_]) (hCont (gb436) _ ⟨hHeld, (qR (Kd.R_mono HO_20.out (fun _ hk => ⟨hk.1.1, ⟨hk.1.2.1, ⟨hk.1.2.2.1, ⟨hk.1.2.2.2.1, ⟨hk.1.2.2.2.2.1, ⟨hk.1.2.2.2.2.2.1, ⟨hk.1.2.2.2.2.2.2.1, ⟨hk.1.2.2.2.2.2.2.2, hk.2⟩⟩⟩⟩⟩⟩⟩⟩))), (qR (Kd.R_mono HO_22.out (fun _ hk => ⟨hk.1.1, ⟨hk.1.2.1, ⟨hk.1.2.2.1, ⟨hk.1.2.2.2.1, ⟨hk.1.2.2.2.2.1, ⟨hk.1.2.2.2.2.2.1, ⟨hk.1.2.2.2.2.2.2.1, ⟨hk.1.2.2.2.2.2.2.2, hk.2⟩⟩⟩⟩⟩⟩⟩⟩))), (qR (Kd.R_mono HO_24.out (fun _ hk => ⟨hk.1.1, ⟨hk.1.2.1, ⟨hk.1.2.2.1, ⟨hk.1.2.2.2.1, ⟨hk.1.2.2.2.2.1, ⟨hk.1.2.2.2.2.2.1, ⟨hk.1.2.2.2.2.2.2.1, ⟨hk.1.2.2.2.2.2.2.2, hk.2⟩⟩⟩⟩⟩⟩⟩⟩))), (qR HO_387002.out), (qB BK378.out), (qB BK379.out), (qB BK386.out), (qB BK389.out), (qB BK392.out), (qB BK395.out), (qB BK401.out), (qB BK405.out), (qB BK409.out), (qB BK436.out), GW436.out, (GE436.elim id), NB378_436.out, NB436_378.out, NB379_436.out, NB436_379.out, NB386_436.out, NB436_386.out, NB389_436.out, NB436_389.out, NB392_436.out, NB436_392.out, NB395_436.out, NB436_395.out, NB401_436.out, NB436_401.out, NB405_436.out, NB436_405.out, NB409_436.out, NB436_409.out, (qW HB.out)⟩)
                                     · skip
                                       refine box_step ?hg (N := 28) ?hd (cs := #[.int .i64 0, .int .i64 0]) (t := 26) ?hr ?_; (case hd => rfl); (case hg => rfl); (case hr => first | (go_simp; done) | (go_simp; rfl))
                                       intro gb436 hg w196 hbox hb
                                       have HS0_ := (hb.cell (World.block_lt_of_cell? _ _ (hHeld.1))).trans (hHeld.1)
                                       have HS1_ := (hb.cell (World.block_lt_of_cell? _ _ (hHeld.2.1))).trans (hHeld.2.1)
                                       have HS2_ := (hb.cell (World.block_lt_of_cell? _ _ (hHeld.2.2.1))).trans (hHeld.2.2.1)
                                       have HS3_ := (hb.cell (World.block_lt_of_cell? _ _ (hHeld.2.2.2))).trans (hHeld.2.2.2)
                                       replace HO_20 := Aside0.mk (Kd.R_below (Kd.R_elderB (qR HO_20.out) gb436 (Nat.le_of_eq hg.symm)) hb)
                                       replace HO_22 := Aside0.mk (Kd.R_below (Kd.R_elderB (qR HO_22.out) gb436 (Nat.le_of_eq hg.symm)) hb)
                                       replace HO_24 := Aside0.mk (Kd.R_below (Kd.R_elderB (qR HO_24.out) gb436 (Nat.le_of_eq hg.symm)) hb)
                                       replace HO_387002 := qE HO_387002 hb
                                       have BK436 := Aside0.mk (hbox)
                                       have GW436 := qT HB hg
                                       have GE436 := qS HB hg
                                       replace HB := Aside0.mk (below_step (qW HB.out) hb)
                                       have NB378_436 := qL BK378 hg
                                       have NB436_378 := qM BK378 hg
                                       replace BK378 := qD BK378 hb
                                       have NB379_436 := qL BK379 hg
                                       have NB436_379 := qM BK379 hg
                                       replace BK379 := qD BK379 hb
                                       have NB386_436 := qL BK386 hg
                                       have NB436_386 := qM BK386 hg
                                       replace BK386 := qD BK386 hb
                                       have NB389_436 := qL BK389 hg
                                       have NB436_389 := qM BK389 hg
                                       replace BK389 := qD BK389 hb
                                       have NB392_436 := qL BK392 hg
                                       have NB436_392 := qM BK392 hg
                                       replace BK392 := qD BK392 hb
                                       have NB395_436 := qL BK395 hg
                                       have NB436_395 := qM BK395 hg
                                       replace BK395 := qD BK395 hb
                                       have NB401_436 := qL BK401 hg
                                       have NB436_401 := qM BK401 hg
                                       replace BK401 := qD BK401 hb
                                       have NB405_436 := qL BK405 hg
                                       have NB436_405 := qM BK405 hg
                                       replace BK405 := qD BK405 hb
                                       have NB409_436 := qL BK409 hg
                                       have NB436_409 := qM BK409 hg
                                       replace BK409 := qD BK409 hb
                                       clear hb hbox hg
                                       refine hK.out _ _ ⟨HS0_, HS1_, HS2_, HS3_⟩ (fun hHeld => ?_)
                                       clear hK K
                                       refine norm_ (a' := ?_) ?_ ?_
                                       rotate_left
                                       · show Act.put _ (some 28) _ = _
                                         simp only [Act.put, qa_, qz_, qs_, i64_w, i32_w]
                                         rfl
                                       refine one_ (i := 9) (N := some 161) #[true, true, true, true, true, true, true, true, true, true, false, false, false, true, false, false] rfl rfl (one_of HT_.out (by kernel_rfl)) (by decide) (fun K hK => ?_)
                                       refine goes_ Try.func30 (by kernel_rfl) rfl #[.agg #[.int .i64 ((rd_T26 t410 (ji179)).f0), .int .i64 ((rd_T26 t410 (ji179)).f1)], .agg #[.int .i64 ((rd_T26 t414 0).f0), .int .i64 ((rd_T26 t414 0).f1)]] (by rfl) rfl rfl (by (try simp only [List.map_toArray, List.map_cons, List.map_nil]); first | done | (simp only [hji179]; rfl) | rfl | (simp only [List.length_drop, List.length_take]; rfl)) ?_
                                       with_reducible refine (ratio_Add.calls ((rd_T26 t410 (ji179)).f0) ((rd_T26 t410 (ji179)).f1) ((rd_T26 t414 0).f0) ((rd_T26 t414 0).f1) t433 t434 t435 _ A183.out).mono ?_
                                       rintro e w197 ⟨rfl, hb⟩
                                       have HS0_ := (hb.cell (World.block_lt_of_cell? _ _ (hHeld.1))).trans (hHeld.1)
                                       have HS1_ := (hb.cell (World.block_lt_of_cell? _ _ (hHeld.2.1))).trans (hHeld.2.1)
                                       have HS2_ := (hb.cell (World.block_lt_of_cell? _ _ (hHeld.2.2.1))).trans (hHeld.2.2.1)
                                       have HS3_ := (hb.cell (World.block_lt_of_cell? _ _ (hHeld.2.2.2))).trans (hHeld.2.2.2)
                                       refine ⟨_, rfl, ?_⟩
                                       replace HO_20 := qE HO_20 hb
                                       replace HO_22 := qE HO_22 hb
                                       replace HO_24 := qE HO_24 hb
                                       replace HO_387002 := qE HO_387002 hb
                                       replace BK378 := qD BK378 hb
                                       replace BK379 := qD BK379 hb
                                       replace BK386 := qD BK386 hb
                                       replace BK389 := qD BK389 hb
                                       replace BK392 := qD BK392 hb
                                       replace BK395 := qD BK395 hb
                                       replace BK401 := qD BK401 hb
                                       replace BK405 := qD BK405 hb
                                       replace BK409 := qD BK409 hb
                                       replace BK436 := qD BK436 hb
                                       replace HB := Aside0.mk (below_step (qW HB.out) hb)
                                       (try clear hb)
                                       (try clear hb2)
                                       (try clear hk)
                                       (try clear hi)
                                       refine hK.out _ _ ⟨HS0_, HS1_, HS2_, HS3_⟩ (fun hHeld => ?_)
                                       clear hK K
                                       refine norm_ (a' := ?_) ?_ ?_
                                       rotate_left
                                       · show Act.put _ (some 161) _ = _
                                         simp only [Act.put, qa_, qz_, qs_, i64_w, i32_w]
                                         rfl
                                       refine pure_ (i := 10) (N := some 151) (v := ?_) (a' := ?_) #[true, true, true, true, true, true, true, true, true, true, true, false, false, true, false, false] rfl rfl (any_of HT_.out (by kernel_rfl)) (fun _ _ _ h => h) (Or.inl ⟨by rfl, ?_⟩) ?_ ?_
                                       rotate_left
                                       · intro w'
                                         go_simp
                                         with_reducible rfl
                                       rotate_left
                                       · simp only [Act.put, qa_, qz_, qs_, i64_w, i32_w]
                                         rfl
                                       refine pure_ (i := 11) (N := some 162) (v := ?_) (a' := ?_) #[true, true, true, true, true, true, true, true, true, true, true, true, false, true, false, false] rfl rfl (any_of HT_.out (by kernel_rfl)) (fun _ _ _ h => h) (Or.inl ⟨by rfl, ?_⟩) ?_ ?_
                                       rotate_left
                                       · intro w'
                                         go_simp
                                         with_reducible rfl
                                       rotate_left
                                       · simp only [Act.put, qa_, qz_, qs_, i64_w, i32_w]
                                         rfl
                                       refine pure_ (i := 12) (N := some 163) (v := ?_) (a' := ?_) #[true, true, true, true, true, true, true, true, true, true, true, true, true, true, false, false] rfl rfl (any_of HT_.out (by kernel_rfl)) (fun _ _ _ h => h) (Or.inl ⟨by rfl, ?_⟩) ?_ ?_
                                       rotate_left
                                       · intro w'
                                         go_simp
                                         with_reducible rfl
                                       rotate_left
                                       · simp only [Act.put, qa_, qz_, qs_, i64_w, i32_w]
                                         rfl
                                       exact norm_ (by simp only [putAll, Act.put, qa_, qz_, qs_]) (hCont (gb436) _ ⟨hHeld, (qR (Kd.R_mono HO_20.out (fun _ hk => ⟨hk.1.1, ⟨hk.1.2.1, ⟨hk.1.2.2.1, ⟨hk.1.2.2.2.1, ⟨hk.1.2.2.2.2.1, ⟨hk.1.2.2.2.2.2.1, ⟨hk.1.2.2.2.2.2.2.1, ⟨hk.1.2.2.2.2.2.2.2, hk.2⟩⟩⟩⟩⟩⟩⟩⟩))), (qR (Kd.R_mono HO_22.out (fun _ hk => ⟨hk.1.1, ⟨hk.1.2.1, ⟨hk.1.2.2.1, ⟨hk.1.2.2.2.1, ⟨hk.1.2.2.2.2.1, ⟨hk.1.2.2.2.2.2.1, ⟨hk.1.2.2.2.2.2.2.1, ⟨hk.1.2.2.2.2.2.2.2, hk.2⟩⟩⟩⟩⟩⟩⟩⟩))), (qR (Kd.R_mono HO_24.out (fun _ hk => ⟨hk.1.1, ⟨hk.1.2.1, ⟨hk.1.2.2.1, ⟨hk.1.2.2.2.1, ⟨hk.1.2.2.2.2.1, ⟨hk.1.2.2.2.2.2.1, ⟨hk.1.2.2.2.2.2.2.1, ⟨hk.1.2.2.2.2.2.2.2, hk.2⟩⟩⟩⟩⟩⟩⟩⟩))), (qR HO_387002.out), (qB BK378.out), (qB BK379.out), (qB BK386.out), (qB BK389.out), (qB BK392.out), (qB BK395.out), (qB BK401.out), (qB BK405.out), (qB BK409.out), (qB BK436.out), GW436.out, (GE436.elim id), NB378_436.out, NB436_378.out, NB379_436.out, NB436_379.out, NB386_436.out, NB436_386.out, NB389_436.out, NB436_389.out, NB392_436.out, NB436_392.out, NB395_436.out, NB436_395.out, NB401_436.out, NB436_401.out, NB405_436.out, NB436_405.out, NB409_436.out, NB436_409.out, (qW HB.out)⟩)
                                   rintro gb436 w198 ⟨hS_, h0_, h1_, h2_, h3_, h4_, h5_, h6_, h7_, h8_, h9_, h10_, h11_, h12_, h13_, h14_, h15_, h16_, h17_, h18_, h19_, h20_, h21_, h22_, h23_, h24_, h25_, h26_, h27_, h28_, h29_, h30_, h31_, h32_, h33_, h34_⟩
                                   replace HO_20 : Aside0 (Kd.R k26 26 w198 w.heap.size (fun k_ => some k_ ≠ (.slice (some ad432) t414.length co195 : Value).ownBlock ∧ some k_ ≠ (v419 : Value).ownBlock ∧ k_ ≠ gb389 ∧ k_ ≠ gb392 ∧ k_ ≠ gb395 ∧ k_ ≠ gb401 ∧ k_ ≠ gb405 ∧ k_ ≠ gb409 ∧ k_ ≠ gb436) (.slice (some ad431) t410.length co194) t410) := ⟨h0_⟩
                                   replace HO_22 : Aside0 (Kd.R k26 26 w198 w.heap.size (fun k_ => some k_ ≠ (.slice (some ad431) t410.length co194 : Value).ownBlock ∧ some k_ ≠ (v419 : Value).ownBlock ∧ k_ ≠ gb389 ∧ k_ ≠ gb392 ∧ k_ ≠ gb395 ∧ k_ ≠ gb401 ∧ k_ ≠ gb405 ∧ k_ ≠ gb409 ∧ k_ ≠ gb436) (.slice (some ad432) t414.length co195) t414) := ⟨h1_⟩
                                   replace HO_24 : Aside0 (Kd.R k26 26 w198 w.heap.size (fun k_ => some k_ ≠ (.slice (some ad431) t410.length co194 : Value).ownBlock ∧ some k_ ≠ (.slice (some ad432) t414.length co195 : Value).ownBlock ∧ k_ ≠ gb389 ∧ k_ ≠ gb392 ∧ k_ ≠ gb395 ∧ k_ ≠ gb401 ∧ k_ ≠ gb405 ∧ k_ ≠ gb409 ∧ k_ ≠ gb436) v419 t418) := ⟨h2_⟩
                                   replace HO_387002 : Aside0 (Kd.R (Kd.int .i64) 3 w198 w.heap.size (fun _ => True) (.slice Ao21 t383.length co21) t383) := ⟨h3_⟩
                                   replace BK378 : Aside0 (w198.heap[gb378]? = some (.cells #[.int .i64 a0_0, .int .i64 a0_1, .slice A0_2 l0_2.length c0_2] 24 (0, 0))) := ⟨h4_⟩
                                   replace BK379 : Aside0 (w198.heap[gb379]? = some (.cells #[.int .i64 a2_0, .int .i64 a2_1, .int .i64 a2_2] 50 (0, 0))) := ⟨h5_⟩
                                   replace BK386 : Aside0 (w198.heap[gb386]? = some (.cells #[.int .i64 t381, .int .i64 t382, .slice Ao21 t383.length co21] 24 (0, 0))) := ⟨h6_⟩
                                   replace BK389 : Aside0 (w198.heap[gb389]? = some (.cells #[.int .i64 t387, .int .i64 t388] 26 (0, 0))) := ⟨h7_⟩
                                   replace BK392 : Aside0 (w198.heap[gb392]? = some (.cells #[.int .i64 t390, .int .i64 t391] 26 (0, 0))) := ⟨h8_⟩
                                   replace BK395 : Aside0 (w198.heap[gb395]? = some (.cells #[.int .i64 t393, .int .i64 t394] 26 (0, 0))) := ⟨h9_⟩
                                   replace BK401 : Aside0 (w198.heap[gb401]? = some (.cells #[.int .i64 t398, .int .i64 t399] 26 (0, 0))) := ⟨h10_⟩
                                   replace BK405 : Aside0 (w198.heap[gb405]? = some (.cells #[.int .i64 t402, .int .i64 t403] 26 (0, 0))) := ⟨h11_⟩
                                   replace BK409 : Aside0 (w198.heap[gb409]? = some (.cells #[.int .i64 t406, .int .i64 t407] 26 (0, 0))) := ⟨h12_⟩
                                   have BK436 : Aside0 (w198.heap[gb436]? = some (.cells #[.int .i64 0, .int .i64 0] 26 (0, 0))) := ⟨h13_⟩
                                   have GW436 : Aside0 (w.heap.size ≤ gb436) := ⟨h14_⟩
                                   have GE436 : Nonempty (w.heap.size ≤ gb436) := ⟨h15_⟩
                                   have NB378_436 : Aside0 (gb378 ≠ gb436) := ⟨h16_⟩
                                   have NB436_378 : Aside0 (gb436 ≠ gb378) := ⟨h17_⟩
                                   have NB379_436 : Aside0 (gb379 ≠ gb436) := ⟨h18_⟩
                                   have NB436_379 : Aside0 (gb436 ≠ gb379) := ⟨h19_⟩
                                   have NB386_436 : Aside0 (gb386 ≠ gb436) := ⟨h20_⟩
                                   have NB436_386 : Aside0 (gb436 ≠ gb386) := ⟨h21_⟩
                                   have NB389_436 : Aside0 (gb389 ≠ gb436) := ⟨h22_⟩
                                   have NB436_389 : Aside0 (gb436 ≠ gb389) := ⟨h23_⟩
                                   have NB392_436 : Aside0 (gb392 ≠ gb436) := ⟨h24_⟩
                                   have NB436_392 : Aside0 (gb436 ≠ gb392) := ⟨h25_⟩
                                   have NB395_436 : Aside0 (gb395 ≠ gb436) := ⟨h26_⟩
                                   have NB436_395 : Aside0 (gb436 ≠ gb395) := ⟨h27_⟩
                                   have NB401_436 : Aside0 (gb401 ≠ gb436) := ⟨h28_⟩
                                   have NB436_401 : Aside0 (gb436 ≠ gb401) := ⟨h29_⟩
                                   have NB405_436 : Aside0 (gb405 ≠ gb436) := ⟨h30_⟩
                                   have NB436_405 : Aside0 (gb436 ≠ gb405) := ⟨h31_⟩
                                   have NB409_436 : Aside0 (gb409 ≠ gb436) := ⟨h32_⟩
                                   have NB436_409 : Aside0 (gb436 ≠ gb409) := ⟨h33_⟩
                                   replace HB : Aside0 (Below w.heap.size w w198) := ⟨h34_⟩
                                   clear h0_ h1_ h2_ h3_ h4_ h5_ h6_ h7_ h8_ h9_ h10_ h11_ h12_ h13_ h14_ h15_ h16_ h17_ h18_ h19_ h20_ h21_ h22_ h23_ h24_ h25_ h26_ h27_ h28_ h29_ h30_ h31_ h32_ h33_ h34_
                                   have hHeld : w198.cell? (ad431.add (((ji179)).toNat * 2)) = some (.int .i64 ((rd_T26 t410 (ji179)).f0)) ∧ w198.cell? ⟨(ad431.add (((ji179)).toNat * 2)).block, (ad431.add (((ji179)).toNat * 2)).off + 1, none⟩ = some (.int .i64 ((rd_T26 t410 (ji179)).f1)) ∧ w198.cell? ad432 = some (.int .i64 ((rd_T26 t414 0).f0)) ∧ w198.cell? ⟨ad432.block, ad432.off + 1, none⟩ = some (.int .i64 ((rd_T26 t414 0).f1)) := hS_
                                   refine norm_ (a' := ?_) ?_ ?_
                                   rotate_left
                                   · simp only [putAll, Act.put, qa_, qz_, qs_]
                                     rfl
                                   refine one_ (i := 14) (N := none) #[true, true, true, true, true, true, true, true, true, true, true, true, true, true, true, false] rfl rfl (one_of HT_.out (by kernel_rfl)) (by decide) (fun K hK => ?_)
                                   have hs199 : w198.cell? ⟨gb436, 0, none⟩ = some (.int .i64 0) := (blk_cell BK436.out 0).trans rfl
                                   have hfs199 := blk_frozen BK436.out 0
                                   have hns199_0 := NB378_436.out
                                   have hns199_1 := NB379_436.out
                                   have hns199_2 := NB386_436.out
                                   have hns199_3 := NB389_436.out
                                   have hns199_4 := NB392_436.out
                                   have hns199_5 := NB395_436.out
                                   have hns199_6 := NB401_436.out
                                   have hns199_7 := NB405_436.out
                                   have hns199_8 := NB409_436.out
                                   have hms199_0 := NB436_378.out
                                   have hms199_1 := NB436_379.out
                                   have hms199_2 := NB436_386.out
                                   have hms199_3 := NB436_389.out
                                   have hms199_4 := NB436_392.out
                                   have hms199_5 := NB436_395.out
                                   have hms199_6 := NB436_401.out
                                   have hms199_7 := NB436_405.out
                                   have hms199_8 := NB436_409.out
                                   have hs200 : w198.cell? ⟨gb436, 1, none⟩ = some (.int .i64 0) := (blk_cell BK436.out 1).trans rfl
                                   have hfs200 := blk_frozen BK436.out 1
                                   have hns200_0 := NB378_436.out
                                   have hns200_1 := NB379_436.out
                                   have hns200_2 := NB386_436.out
                                   have hns200_3 := NB389_436.out
                                   have hns200_4 := NB392_436.out
                                   have hns200_5 := NB395_436.out
                                   have hns200_6 := NB401_436.out
                                   have hns200_7 := NB405_436.out
                                   have hns200_8 := NB409_436.out
                                   have hms200_0 := NB436_378.out
                                   have hms200_1 := NB436_379.out
                                   have hms200_2 := NB436_386.out
                                   have hms200_3 := NB436_389.out
                                   have hms200_4 := NB436_392.out
                                   have hms200_5 := NB436_395.out
                                   have hms200_6 := NB436_401.out
                                   have hms200_7 := NB436_405.out
                                   have hms200_8 := NB436_409.out
                                   refine skip_ (w1 := ?_) (by rfl) rfl ?_ ?_
                                   rotate_left
                                   · go_simp
                                     rfl
                                   have fA_ : ad431.block ≠ gb436 := Kd.own_blk (Kd.R_away HO_20.out (fun _ hk => hk.2.2.2.2.2.2.2.2))
                                   have fB_ : ad432.block ≠ gb436 := Kd.own_blk (Kd.R_away HO_22.out (fun _ hk => hk.2.2.2.2.2.2.2.2))
                                   have fC_ : (ad431.add ((ji179).toNat * 2)).block ≠ gb436 := by rw [add_block]; exact fA_
                                   have g0_ := (cell_far (W := w198.setCell ⟨gb436, 0, none⟩ (.int .i64 t433)) (p := ⟨gb436, 1, none⟩) fC_ (.int .i64 t434)).trans ((cell_far (p := ⟨gb436, 0, none⟩) fC_ (.int .i64 t433)).trans hHeld.1)
                                   have g1_ := (cell_far (W := w198.setCell ⟨gb436, 0, none⟩ (.int .i64 t433)) (a := ⟨(ad431.add ((ji179).toNat * 2)).block, (ad431.add ((ji179).toNat * 2)).off + 1, none⟩) (p := ⟨gb436, 1, none⟩) fC_ (.int .i64 t434)).trans ((cell_far (a := ⟨(ad431.add ((ji179).toNat * 2)).block, (ad431.add ((ji179).toNat * 2)).off + 1, none⟩) (p := ⟨gb436, 0, none⟩) fC_ (.int .i64 t433)).trans hHeld.2.1)
                                   have g2_ := (cell_far (W := w198.setCell ⟨gb436, 0, none⟩ (.int .i64 t433)) (p := ⟨gb436, 1, none⟩) fB_ (.int .i64 t434)).trans ((cell_far (p := ⟨gb436, 0, none⟩) fB_ (.int .i64 t433)).trans hHeld.2.2.1)
                                   have g3_ := (cell_far (W := w198.setCell ⟨gb436, 0, none⟩ (.int .i64 t433)) (a := ⟨ad432.block, ad432.off + 1, none⟩) (p := ⟨gb436, 1, none⟩) fB_ (.int .i64 t434)).trans ((cell_far (a := ⟨ad432.block, ad432.off + 1, none⟩) (p := ⟨gb436, 0, none⟩) fB_ (.int .i64 t433)).trans hHeld.2.2.2)
                                   refine hK.out _ _ ⟨g0_, g1_, g2_, g3_⟩ (fun hHeld => ?_)
                                   clear hK K
                                   refine pure_ (i := 15) (N := some 29) (v := ?_) (a' := ?_) #[true, true, true, true, true, true, true, true, true, true, true, true, true, true, true, true] rfl rfl (any_of HT_.out (by kernel_rfl)) (fun _ _ _ h => h) (Or.inl ⟨by rfl, ?_⟩) ?_ ?_
                                   rotate_left
                                   · intro w'
                                     go_simp
                                     with_reducible rfl
                                   rotate_left
                                   · simp only [Act.put, qa_, qz_, qs_, i64_w, i32_w]
                                     rfl
                                   refine done_ (done_of HT_.out (by kernel_rfl)) ?_
                                   try go_wp2
                                   have n0_ : Aside0 (Kd.R k26 26 ((w198.setCell ⟨gb436, 0, none⟩ (.int .i64 t433)).setCell ⟨gb436, 1, none⟩ (.int .i64 t434)) w.heap.size (fun k_ => some k_ ≠ (.slice (some ad432) t414.length co195 : Value).ownBlock ∧ some k_ ≠ (v419 : Value).ownBlock ∧ k_ ≠ gb389 ∧ k_ ≠ gb392 ∧ k_ ≠ gb395 ∧ k_ ≠ gb401 ∧ k_ ≠ gb405 ∧ k_ ≠ gb409 ∧ k_ ≠ gb436) (.slice (some ad431) t410.length co194) t410) := ⟨by (with_reducible repeat (first | apply Kd.R_alloc | apply Kd.R_drewN | apply Kd.R_drew)); exact Kd.R_mono (Kd.R_far (p := ⟨gb436, 1, none⟩) (Kd.R_far (p := ⟨gb436, 0, none⟩) (Kd.R_mono HO_20.out (fun k_ hk => (⟨hk, hk.2.2.2.2.2.2.2.2⟩ : _ ∧ k_ ≠ gb436))) (fun _ hk => hk.2) (.int .i64 t433)) (fun _ hk => hk.2) (.int .i64 t434)) (fun _ hk => ⟨hk.1.1, ⟨hk.1.2.1, ⟨hk.1.2.2.1, ⟨hk.1.2.2.2.1, ⟨hk.1.2.2.2.2.1, ⟨hk.1.2.2.2.2.2.1, ⟨hk.1.2.2.2.2.2.2.1, ⟨hk.1.2.2.2.2.2.2.2.1, hk.1.2.2.2.2.2.2.2.2⟩⟩⟩⟩⟩⟩⟩⟩)⟩
                                   have n1_ : Aside0 (Kd.R k26 26 ((w198.setCell ⟨gb436, 0, none⟩ (.int .i64 t433)).setCell ⟨gb436, 1, none⟩ (.int .i64 t434)) w.heap.size (fun k_ => some k_ ≠ (.slice (some ad431) t410.length co194 : Value).ownBlock ∧ some k_ ≠ (v419 : Value).ownBlock ∧ k_ ≠ gb389 ∧ k_ ≠ gb392 ∧ k_ ≠ gb395 ∧ k_ ≠ gb401 ∧ k_ ≠ gb405 ∧ k_ ≠ gb409 ∧ k_ ≠ gb436) (.slice (some ad432) t414.length co195) t414) := ⟨by (with_reducible repeat (first | apply Kd.R_alloc | apply Kd.R_drewN | apply Kd.R_drew)); exact Kd.R_mono (Kd.R_far (p := ⟨gb436, 1, none⟩) (Kd.R_far (p := ⟨gb436, 0, none⟩) (Kd.R_mono HO_22.out (fun k_ hk => (⟨hk, hk.2.2.2.2.2.2.2.2⟩ : _ ∧ k_ ≠ gb436))) (fun _ hk => hk.2) (.int .i64 t433)) (fun _ hk => hk.2) (.int .i64 t434)) (fun _ hk => ⟨hk.1.1, ⟨hk.1.2.1, ⟨hk.1.2.2.1, ⟨hk.1.2.2.2.1, ⟨hk.1.2.2.2.2.1, ⟨hk.1.2.2.2.2.2.1, ⟨hk.1.2.2.2.2.2.2.1, ⟨hk.1.2.2.2.2.2.2.2.1, hk.1.2.2.2.2.2.2.2.2⟩⟩⟩⟩⟩⟩⟩⟩)⟩
                                   have n2_ : Aside0 (Kd.R k26 26 ((w198.setCell ⟨gb436, 0, none⟩ (.int .i64 t433)).setCell ⟨gb436, 1, none⟩ (.int .i64 t434)) w.heap.size (fun k_ => some k_ ≠ (.slice (some ad431) t410.length co194 : Value).ownBlock ∧ some k_ ≠ (.slice (some ad432) t414.length co195 : Value).ownBlock ∧ k_ ≠ gb389 ∧ k_ ≠ gb392 ∧ k_ ≠ gb395 ∧ k_ ≠ gb401 ∧ k_ ≠ gb405 ∧ k_ ≠ gb409 ∧ k_ ≠ gb436) v419 t418) := ⟨by (with_reducible repeat (first | apply Kd.R_alloc | apply Kd.R_drewN | apply Kd.R_drew)); exact Kd.R_mono (Kd.R_far (p := ⟨gb436, 1, none⟩) (Kd.R_far (p := ⟨gb436, 0, none⟩) (Kd.R_mono HO_24.out (fun k_ hk => (⟨hk, hk.2.2.2.2.2.2.2.2⟩ : _ ∧ k_ ≠ gb436))) (fun _ hk => hk.2) (.int .i64 t433)) (fun _ hk => hk.2) (.int .i64 t434)) (fun _ hk => ⟨hk.1.1, ⟨hk.1.2.1, ⟨hk.1.2.2.1, ⟨hk.1.2.2.2.1, ⟨hk.1.2.2.2.2.1, ⟨hk.1.2.2.2.2.2.1, ⟨hk.1.2.2.2.2.2.2.1, ⟨hk.1.2.2.2.2.2.2.2.1, hk.1.2.2.2.2.2.2.2.2⟩⟩⟩⟩⟩⟩⟩⟩)⟩
                                   have n3_ : Aside0 (Kd.R (Kd.int .i64) 3 ((w198.setCell ⟨gb436, 0, none⟩ (.int .i64 t433)).setCell ⟨gb436, 1, none⟩ (.int .i64 t434)) w.heap.size (fun _ => True) (.slice Ao21 t383.length co21) t383) := ⟨by (with_reducible repeat (first | apply Kd.R_alloc | apply Kd.R_drewN | apply Kd.R_drew)); exact Kd.R_mono (Kd.R_far (p := ⟨gb436, 1, none⟩) (Kd.R_far (p := ⟨gb436, 0, none⟩) (Kd.R_types HO_387002.out BK436.out (by decide)) (fun _ hk => hk.2) (.int .i64 t433)) (fun _ hk => hk.2) (.int .i64 t434)) (fun _ hk => trivial)⟩
                                   have n4_ : Aside0 (((w198.setCell ⟨gb436, 0, none⟩ (.int .i64 t433)).setCell ⟨gb436, 1, none⟩ (.int .i64 t434)).heap[gb378]? = some (.cells #[.int .i64 a0_0, .int .i64 a0_1, .slice A0_2 l0_2.length c0_2] 24 (0, 0))) := ⟨by (with_reducible repeat (first | refine blk_drewN ?_ _ | refine blk_drew ?_ | refine blk_alloc ?_ _)); refine blk_far ?_ NB378_436.out _; (with_reducible repeat (first | refine blk_drewN ?_ _ | refine blk_drew ?_ | refine blk_alloc ?_ _)); refine blk_far ?_ NB378_436.out _; (with_reducible repeat (first | refine blk_drewN ?_ _ | refine blk_drew ?_ | refine blk_alloc ?_ _)); exact BK378.out⟩
                                   have n5_ : Aside0 (((w198.setCell ⟨gb436, 0, none⟩ (.int .i64 t433)).setCell ⟨gb436, 1, none⟩ (.int .i64 t434)).heap[gb379]? = some (.cells #[.int .i64 a2_0, .int .i64 a2_1, .int .i64 a2_2] 50 (0, 0))) := ⟨by (with_reducible repeat (first | refine blk_drewN ?_ _ | refine blk_drew ?_ | refine blk_alloc ?_ _)); refine blk_far ?_ NB379_436.out _; (with_reducible repeat (first | refine blk_drewN ?_ _ | refine blk_drew ?_ | refine blk_alloc ?_ _)); refine blk_far ?_ NB379_436.out _; (with_reducible repeat (first | refine blk_drewN ?_ _ | refine blk_drew ?_ | refine blk_alloc ?_ _)); exact BK379.out⟩
                                   have n6_ : Aside0 (((w198.setCell ⟨gb436, 0, none⟩ (.int .i64 t433)).setCell ⟨gb436, 1, none⟩ (.int .i64 t434)).heap[gb386]? = some (.cells #[.int .i64 t381, .int .i64 t382, .slice Ao21 t383.length co21] 24 (0, 0))) := ⟨by (with_reducible repeat (first | refine blk_drewN ?_ _ | refine blk_drew ?_ | refine blk_alloc ?_ _)); refine blk_far ?_ NB386_436.out _; (with_reducible repeat (first | refine blk_drewN ?_ _ | refine blk_drew ?_ | refine blk_alloc ?_ _)); refine blk_far ?_ NB386_436.out _; (with_reducible repeat (first | refine blk_drewN ?_ _ | refine blk_drew ?_ | refine blk_alloc ?_ _)); exact BK386.out⟩
                                   have n7_ : Aside0 (((w198.setCell ⟨gb436, 0, none⟩ (.int .i64 t433)).setCell ⟨gb436, 1, none⟩ (.int .i64 t434)).heap[gb389]? = some (.cells #[.int .i64 t387, .int .i64 t388] 26 (0, 0))) := ⟨by (with_reducible repeat (first | refine blk_drewN ?_ _ | refine blk_drew ?_ | refine blk_alloc ?_ _)); refine blk_far ?_ NB389_436.out _; (with_reducible repeat (first | refine blk_drewN ?_ _ | refine blk_drew ?_ | refine blk_alloc ?_ _)); refine blk_far ?_ NB389_436.out _; (with_reducible repeat (first | refine blk_drewN ?_ _ | refine blk_drew ?_ | refine blk_alloc ?_ _)); exact BK389.out⟩
                                   have n8_ : Aside0 (((w198.setCell ⟨gb436, 0, none⟩ (.int .i64 t433)).setCell ⟨gb436, 1, none⟩ (.int .i64 t434)).heap[gb392]? = some (.cells #[.int .i64 t390, .int .i64 t391] 26 (0, 0))) := ⟨by (with_reducible repeat (first | refine blk_drewN ?_ _ | refine blk_drew ?_ | refine blk_alloc ?_ _)); refine blk_far ?_ NB392_436.out _; (with_reducible repeat (first | refine blk_drewN ?_ _ | refine blk_drew ?_ | refine blk_alloc ?_ _)); refine blk_far ?_ NB392_436.out _; (with_reducible repeat (first | refine blk_drewN ?_ _ | refine blk_drew ?_ | refine blk_alloc ?_ _)); exact BK392.out⟩
                                   have n9_ : Aside0 (((w198.setCell ⟨gb436, 0, none⟩ (.int .i64 t433)).setCell ⟨gb436, 1, none⟩ (.int .i64 t434)).heap[gb395]? = some (.cells #[.int .i64 t393, .int .i64 t394] 26 (0, 0))) := ⟨by (with_reducible repeat (first | refine blk_drewN ?_ _ | refine blk_drew ?_ | refine blk_alloc ?_ _)); refine blk_far ?_ NB395_436.out _; (with_reducible repeat (first | refine blk_drewN ?_ _ | refine blk_drew ?_ | refine blk_alloc ?_ _)); refine blk_far ?_ NB395_436.out _; (with_reducible repeat (first | refine blk_drewN ?_ _ | refine blk_drew ?_ | refine blk_alloc ?_ _)); exact BK395.out⟩
                                   have n10_ : Aside0 (((w198.setCell ⟨gb436, 0, none⟩ (.int .i64 t433)).setCell ⟨gb436, 1, none⟩ (.int .i64 t434)).heap[gb401]? = some (.cells #[.int .i64 t398, .int .i64 t399] 26 (0, 0))) := ⟨by (with_reducible repeat (first | refine blk_drewN ?_ _ | refine blk_drew ?_ | refine blk_alloc ?_ _)); refine blk_far ?_ NB401_436.out _; (with_reducible repeat (first | refine blk_drewN ?_ _ | refine blk_drew ?_ | refine blk_alloc ?_ _)); refine blk_far ?_ NB401_436.out _; (with_reducible repeat (first | refine blk_drewN ?_ _ | refine blk_drew ?_ | refine blk_alloc ?_ _)); exact BK401.out⟩
                                   have n11_ : Aside0 (((w198.setCell ⟨gb436, 0, none⟩ (.int .i64 t433)).setCell ⟨gb436, 1, none⟩ (.int .i64 t434)).heap[gb405]? = some (.cells #[.int .i64 t402, .int .i64 t403] 26 (0, 0))) := ⟨by (with_reducible repeat (first | refine blk_drewN ?_ _ | refine blk_drew ?_ | refine blk_alloc ?_ _)); refine blk_far ?_ NB405_436.out _; (with_reducible repeat (first | refine blk_drewN ?_ _ | refine blk_drew ?_ | refine blk_alloc ?_ _)); refine blk_far ?_ NB405_436.out _; (with_reducible repeat (first | refine blk_drewN ?_ _ | refine blk_drew ?_ | refine blk_alloc ?_ _)); exact BK405.out⟩
                                   have n12_ : Aside0 (((w198.setCell ⟨gb436, 0, none⟩ (.int .i64 t433)).setCell ⟨gb436, 1, none⟩ (.int .i64 t434)).heap[gb409]? = some (.cells #[.int .i64 t406, .int .i64 t407] 26 (0, 0))) := ⟨by (with_reducible repeat (first | refine blk_drewN ?_ _ | refine blk_drew ?_ | refine blk_alloc ?_ _)); refine blk_far ?_ NB409_436.out _; (with_reducible repeat (first | refine blk_drewN ?_ _ | refine blk_drew ?_ | refine blk_alloc ?_ _)); refine blk_far ?_ NB409_436.out _; (with_reducible repeat (first | refine blk_drewN ?_ _ | refine blk_drew ?_ | refine blk_alloc ?_ _)); exact BK409.out⟩
                                   have n13_ : Aside0 (((w198.setCell ⟨gb436, 0, none⟩ (.int .i64 t433)).setCell ⟨gb436, 1, none⟩ (.int .i64 t434)).heap[gb436]? = some (.cells #[.int .i64 t433, .int .i64 t434] 26 (0, 0))) := ⟨by (with_reducible repeat (first | refine blk_drewN ?_ _ | refine blk_drew ?_ | refine blk_alloc ?_ _)); refine blk_put (cs := #[.int .i64 t433, .int .i64 0]) ?_ 1 _ rfl; (with_reducible repeat (first | refine blk_drewN ?_ _ | refine blk_drew ?_ | refine blk_alloc ?_ _)); refine blk_put (cs := #[.int .i64 0, .int .i64 0]) ?_ 0 _ rfl; (with_reducible repeat (first | refine blk_drewN ?_ _ | refine blk_drew ?_ | refine blk_alloc ?_ _)); exact BK436.out⟩
                                   have n14_ : Aside0 (Below w.heap.size w ((w198.setCell ⟨gb436, 0, none⟩ (.int .i64 t433)).setCell ⟨gb436, 1, none⟩ (.int .i64 t434))) := ⟨by exact qW HB.out⟩
                                   (try clear HO_20)
                                   (try clear HO_22)
                                   (try clear HO_24)
                                   (try clear HO_387002)
                                   (try clear BK378)
                                   (try clear BK379)
                                   (try clear BK386)
                                   (try clear BK389)
                                   (try clear BK392)
                                   (try clear BK395)
                                   (try clear BK401)
                                   (try clear BK405)
                                   (try clear BK409)
                                   (try clear BK436)
                                   (try clear HB)
                                   generalize ((w198.setCell ⟨gb436, 0, none⟩ (.int .i64 t433)).setCell ⟨gb436, 1, none⟩ (.int .i64 t434)) = w201 at n0_ n1_ n2_ n3_ n4_ n5_ n6_ n7_ n8_ n9_ n10_ n11_ n12_ n13_ n14_ ⊢
                                   have HO_20 := n0_
                                   have HO_22 := n1_
                                   have HO_24 := n2_
                                   have HO_387002 := n3_
                                   have BK378 := n4_
                                   have BK379 := n5_
                                   have BK386 := n6_
                                   have BK389 := n7_
                                   have BK392 := n8_
                                   have BK395 := n9_
                                   have BK401 := n10_
                                   have BK405 := n11_
                                   have BK409 := n12_
                                   have BK436 := n13_
                                   have HB := n14_
                                   clear n0_ n1_ n2_ n3_ n4_ n5_ n6_ n7_ n8_ n9_ n10_ n11_ n12_ n13_ n14_
                                   replace HO_20 := Aside0.mk (Kd.R_drew HO_20.out)
                                   replace HO_22 := Aside0.mk (Kd.R_drew HO_22.out)
                                   replace HO_24 := Aside0.mk (Kd.R_drew HO_24.out)
                                   replace HO_387002 := Aside0.mk (Kd.R_drew HO_387002.out)
                                   replace BK378 := Aside0.mk (blk_drew BK378.out)
                                   replace BK379 := Aside0.mk (blk_drew BK379.out)
                                   replace BK386 := Aside0.mk (blk_drew BK386.out)
                                   replace BK389 := Aside0.mk (blk_drew BK389.out)
                                   replace BK392 := Aside0.mk (blk_drew BK392.out)
                                   replace BK395 := Aside0.mk (blk_drew BK395.out)
                                   replace BK401 := Aside0.mk (blk_drew BK401.out)
                                   replace BK405 := Aside0.mk (blk_drew BK405.out)
                                   replace BK409 := Aside0.mk (blk_drew BK409.out)
                                   replace BK436 := Aside0.mk (blk_drew BK436.out)
                                   replace HB := Aside0.mk (below_drew1 HB.out)
                                   have q203 : ((ji179) : Int) ≤ ((t410.length : Int) : Int) := of_decide_eq_true (by first | (with_reducible assumption) | assumption)
                                   obtain ⟨i0203, hi0203, _, hsz203, _⟩ := info_parts info26
                                   have hroom203 : t410.length ≤ co194 := (Kd.R_reads' HO_20.out).2.1
                                   have hC203 : Kd.C k26 _ (some ad431) t410.length t410 := (Kd.R_reads' HO_20.out).2.2
                                   have hcut203 := cut_to (P := Try.prog) 33 26 .i64 Try.underlying33 hi0203 (some ad431) t410.length co194 (ji179) (of_decide_eq_true (by first | (with_reducible assumption) | assumption)) q203 hroom203
                                   have hr203 := Kd.C_take (m := ((ji179) : Int).toNat) hC203 (by omega)
                                   have hy203 : y437.length = ((ji179) : Int).toNat := (by rw [Ny437.out, List.length_take]; omega)
                                   rw [← Ny437.out] at hr203
                                   rw [← hy203] at hcut203
                                   have HR440 := Aside0.mk hr203
                                   have HC440 := Aside0.mk (show y437.length ≤ co194 from by omega)
                                   clear hr203 hC203 hroom203 hi0203 hsz203
                                   have KY203 := Aside0.mk hy203
                                   clear hy203
                                   have KL203 := Aside0.mk (show ((ji179) : Int).toNat ≤ t410.length from by omega)
                                   replace q203 := eq_true q203
                                   refine start_ (n := 10) (S := fun w' => w'.cell? ⟨gb436, 0, none⟩ = some (.int .i64 t433) ∧ w'.cell? ⟨gb436, 1, none⟩ = some (.int .i64 t434)) (ds := []) #[false, false, false, false, false, false, false, false, false, false] (by kernel_rfl) rfl rfl ⟨(blk_cell BK436.out 0).trans rfl, (blk_cell BK436.out 1).trans rfl⟩ (fun hHeld => ?_); refine with_tabW partitalaw05_MeterParts.tab22 partitalaw05_MeterParts.bits22 (fun HT_ HW_ => ?_)
                                   generalize w201.drew = w202 at HO_20 HO_22 HO_24 HO_387002 BK378 BK379 BK386 BK389 BK392 BK395 BK401 BK405 BK409 BK436 HB HR440 hHeld ⊢
                                   refine pure_ (i := 0) (N := some 164) (v := ?_) (a' := ?_) #[true, false, false, false, false, false, false, false, false, false] rfl rfl (any_of HT_.out (by kernel_rfl)) (fun _ _ _ h => h) (Or.inl ⟨by rfl, ?_⟩) ?_ ?_
                                   rotate_left
                                   · intro w'
                                     go_simp
                                     with_reducible rfl
                                   rotate_left
                                   · simp only [Act.put, qa_, qz_, qs_, i64_w, i32_w]
                                     rfl
                                   refine pure_ (i := 1) (N := some 165) (v := ?_) (a' := ?_) #[true, true, false, false, false, false, false, false, false, false] rfl rfl (any_of HT_.out (by kernel_rfl)) (fun _ _ _ h => h) (Or.inl ⟨by rfl, ?_⟩) ?_ ?_
                                   rotate_left
                                   · intro w'
                                     go_simp
                                     with_reducible rfl
                                   rotate_left
                                   · simp only [Act.put, qa_, qz_, qs_, i64_w, i32_w]
                                     rfl
                                   refine pure_ (i := 2) (N := some 166) (v := ?_) (a' := ?_) #[true, true, true, false, false, false, false, false, false, false] rfl rfl (any_of HT_.out (by kernel_rfl)) (fun _ _ _ h => h) (Or.inl ⟨by rfl, ?_⟩) ?_ ?_
                                   rotate_left
                                   · intro w'
                                     go_simp
                                     with_reducible rfl
                                   rotate_left
                                   · simp only [Act.put, qa_, qz_, qs_, i64_w, i32_w]
                                     rfl
                                   refine pure_ (i := 3) (N := some 167) (v := ?_) (a' := ?_) #[true, true, true, true, false, false, false, false, false, false] rfl rfl (any_of HT_.out (by kernel_rfl)) (fun _ _ _ h => h) (Or.inl ⟨by rfl, ?_⟩) ?_ ?_
                                   rotate_left
                                   · intro w'
                                     go_simp
                                     with_reducible rfl
                                   rotate_left
                                   · simp only [Act.put, qa_, qz_, qs_, i64_w, i32_w]
                                     rfl
                                   refine pure_ (i := 4) (N := some 168) (v := ?_) (a' := ?_) #[true, true, true, true, true, false, false, false, false, false] rfl rfl (any_of HT_.out (by kernel_rfl)) (fun _ _ _ h => h) (Or.inl ⟨by rfl, ?_⟩) ?_ ?_
                                   rotate_left
                                   · intro w'
                                     go_simp
                                     with_reducible rfl
                                   rotate_left
                                   · simp only [Act.put, qa_, qz_, qs_, i64_w, i32_w]
                                     rfl
                                   refine take_ (i := 6) (N := some 170) (v := ?_) (a' := ?_) #[true, true, true, true, true, false, true, false, false, false] rfl rfl (take_ofW HT_.out HW_.out (by kernel_rfl)) (fun _ _ _ h => h) (Or.inl ⟨by rfl, ?_⟩) hHeld ?_ ?_
                                   rotate_left
                                   · rintro w' ⟨s0, s1⟩
                                     go_simp
                                     with_reducible rfl
                                   rotate_left
                                   · simp only [Act.put, qa_, qz_, qs_, i64_w, i32_w]
                                     rfl
                                   refine join_ (σ := Value × Value) 2 #[true, true, true, true, true, true, true, true, false, false] (fun s_ => [(169, s_.1), (171, s_.2)]) (fun s_ w' => (w'.cell? ⟨gb436, 0, none⟩ = some (.int .i64 t433) ∧ w'.cell? ⟨gb436, 1, none⟩ = some (.int .i64 t434)) ∧ (Kd.R k26 26 w' w.heap.size (fun k_ => some k_ ≠ (s_.2 : Value).ownBlock ∧ some k_ ≠ (.slice (some ad431) t410.length co194 : Value).ownBlock ∧ some k_ ≠ (.slice (some ad432) t414.length co195 : Value).ownBlock ∧ some k_ ≠ (v419 : Value).ownBlock ∧ k_ ≠ gb389 ∧ k_ ≠ gb392 ∧ k_ ≠ gb395 ∧ k_ ≠ gb401 ∧ k_ ≠ gb405 ∧ k_ ≠ gb409 ∧ k_ ≠ gb436) s_.1 y441) ∧ (Kd.R k26 26 w' w.heap.size (fun k_ => some k_ ≠ (s_.1 : Value).ownBlock ∧ some k_ ≠ (.slice (some ad431) t410.length co194 : Value).ownBlock ∧ some k_ ≠ (.slice (some ad432) t414.length co195 : Value).ownBlock ∧ some k_ ≠ (v419 : Value).ownBlock ∧ k_ ≠ gb389 ∧ k_ ≠ gb392 ∧ k_ ≠ gb395 ∧ k_ ≠ gb401 ∧ k_ ≠ gb405 ∧ k_ ≠ gb409 ∧ k_ ≠ gb436) s_.2 y444) ∧ (Kd.R k26 26 w' w.heap.size (fun k_ => some k_ ≠ (s_.1 : Value).ownBlock ∧ some k_ ≠ (s_.2 : Value).ownBlock ∧ some k_ ≠ (.slice (some ad432) t414.length co195 : Value).ownBlock ∧ some k_ ≠ (v419 : Value).ownBlock ∧ k_ ≠ gb389 ∧ k_ ≠ gb392 ∧ k_ ≠ gb395 ∧ k_ ≠ gb401 ∧ k_ ≠ gb405 ∧ k_ ≠ gb409 ∧ k_ ≠ gb436) (.slice (some ad431) t410.length co194) t410) ∧ (Kd.R k26 26 w' w.heap.size (fun k_ => some k_ ≠ (s_.1 : Value).ownBlock ∧ some k_ ≠ (s_.2 : Value).ownBlock ∧ some k_ ≠ (.slice (some ad431) t410.length co194 : Value).ownBlock ∧ some k_ ≠ (v419 : Value).ownBlock ∧ k_ ≠ gb389 ∧ k_ ≠ gb392 ∧ k_ ≠ gb395 ∧ k_ ≠ gb401 ∧ k_ ≠ gb405 ∧ k_ ≠ gb409 ∧ k_ ≠ gb436) (.slice (some ad432) t414.length co195) t414) ∧ (Kd.R k26 26 w' w.heap.size (fun k_ => some k_ ≠ (s_.1 : Value).ownBlock ∧ some k_ ≠ (s_.2 : Value).ownBlock ∧ some k_ ≠ (.slice (some ad431) t410.length co194 : Value).ownBlock ∧ some k_ ≠ (.slice (some ad432) t414.length co195 : Value).ownBlock ∧ k_ ≠ gb389 ∧ k_ ≠ gb392 ∧ k_ ≠ gb395 ∧ k_ ≠ gb401 ∧ k_ ≠ gb405 ∧ k_ ≠ gb409 ∧ k_ ≠ gb436) v419 t418) ∧ (Kd.R (Kd.int .i64) 3 w' w.heap.size (fun _ => True) (.slice Ao21 t383.length co21) t383) ∧ (w'.heap[gb378]? = some (.cells #[.int .i64 a0_0, .int .i64 a0_1, .slice A0_2 l0_2.length c0_2] 24 (0, 0))) ∧ (w'.heap[gb379]? = some (.cells #[.int .i64 a2_0, .int .i64 a2_1, .int .i64 a2_2] 50 (0, 0))) ∧ (w'.heap[gb386]? = some (.cells #[.int .i64 t381, .int .i64 t382, .slice Ao21 t383.length co21] 24 (0, 0))) ∧ (w'.heap[gb389]? = some (.cells #[.int .i64 t387, .int .i64 t388] 26 (0, 0))) ∧ (w'.heap[gb392]? = some (.cells #[.int .i64 t390, .int .i64 t391] 26 (0, 0))) ∧ (w'.heap[gb395]? = some (.cells #[.int .i64 t393, .int .i64 t394] 26 (0, 0))) ∧ (w'.heap[gb401]? = some (.cells #[.int .i64 t398, .int .i64 t399] 26 (0, 0))) ∧ (w'.heap[gb405]? = some (.cells #[.int .i64 t402, .int .i64 t403] 26 (0, 0))) ∧ (w'.heap[gb409]? = some (.cells #[.int .i64 t406, .int .i64 t407] 26 (0, 0))) ∧ (w'.heap[gb436]? = some (.cells #[.int .i64 t433, .int .i64 t434] 26 (0, 0))) ∧ (Below w.heap.size w w')) ?_ ?_
                                   rotate_left
                                   · intro hCont
                                     refine two_ (i := 5) (j := 7) (Ni := some 169) (Nj := some 171) #[true, true, true, true, true, true, true, false, false, false] #[true, true, true, true, true, false, true, true, false, false] rfl rfl rfl rfl (two_of HT_.out (by kernel_rfl)) (by decide) (by decide) (fun K hK => ?_) (fun K hK => ?_)
                                     · skip
                                       refine Kd.R_append_rows_step k26 (w0 := w) w.heap.size (by rfl) (.const (.slice none 0 0)) (.tmp 168) 33 26 (.agg #[(.int .i64 0), (.int .i64 0)]) 16 rfl Try.underlying33 info26 rfl (by decide) (by omega) (.slice none 0 0) ([] : List (S26)) y437 _ _ _ (fun k_ => some k_ ≠ (.slice (some ad431) t410.length co194 : Value).ownBlock ∧ some k_ ≠ (.slice (some ad432) t414.length co195 : Value).ownBlock ∧ some k_ ≠ (v419 : Value).ownBlock ∧ k_ ≠ gb389 ∧ k_ ≠ gb392 ∧ k_ ≠ gb395 ∧ k_ ≠ gb401 ∧ k_ ≠ gb405 ∧ k_ ≠ gb409 ∧ k_ ≠ gb436) (fun _ => False) rfl rfl ?aO ?aR (fun _ _ h => h) (fun _ h => h.elim) ?aF ?aB ?aS ?aL ?_
                                       (case aR => repeat (first | exact (by repeat (first | (with_reducible exact HR440.out) | (with_reducible refine Kd.C_alloc ?_ _) | (with_reducible refine Kd.C_drewN ?_ _) | (with_reducible refine Kd.C_drew ?_) | exact HR440.out)) | (with_reducible refine Kd.C_alloc ?_ _) | (with_reducible refine Kd.C_drewN ?_ _) | (with_reducible refine Kd.C_drew ?_)))
                                       (case aB => exact (qW HB.out))
                                       (case aF => exact (fun k_ hk => ⟨Kd.fresh' (Kd.R_lt (qR HO_20.out)) k_ hk, Kd.fresh' (Kd.R_lt (qR HO_22.out)) k_ hk, Kd.fresh' (Kd.R_lt (qR HO_24.out)) k_ hk, Kd.freshB (qB BK389.out) k_ hk, Kd.freshB (qB BK392.out) k_ hk, Kd.freshB (qB BK395.out) k_ hk, Kd.freshB (qB BK401.out) k_ hk, Kd.freshB (qB BK405.out) k_ hk, Kd.freshB (qB BK409.out) k_ hk, Kd.freshB (qB BK436.out) k_ hk⟩))
                                       (case aO => exact ((Kd.R_nil _ _ _ _ (fun k_ => some k_ ≠ (.slice (some ad431) t410.length co194 : Value).ownBlock ∧ some k_ ≠ (.slice (some ad432) t414.length co195 : Value).ownBlock ∧ some k_ ≠ (v419 : Value).ownBlock ∧ k_ ≠ gb389 ∧ k_ ≠ gb392 ∧ k_ ≠ gb395 ∧ k_ ≠ gb401 ∧ k_ ≠ gb405 ∧ k_ ≠ gb409 ∧ k_ ≠ gb436))))
                                       (case aS => exact (below_size (qW HB.out)))
                                       (case aL => have := LMc186.out; omega)
                                       intro v442 w204 ho hb hg hat
                                       rw [← Ny441.out] at ho
                                       replace HO_22 := Aside0.mk (Kd.R_after (Kd.R_apart_nil (qR HO_22.out)) hg hat)
                                       replace HO_24 := Aside0.mk (Kd.R_after (Kd.R_apart_nil (qR HO_24.out)) hg hat)
                                       replace HO_387002 := Aside0.mk (Kd.R_grown (qR HO_387002.out) hg (fun _ _ => by simp [Value.ownBlock]))
                                       replace BK378 := Aside0.mk (blk_grown (qB BK378.out) hg (by simp [Value.ownBlock]))
                                       replace BK379 := Aside0.mk (blk_grown (qB BK379.out) hg (by simp [Value.ownBlock]))
                                       replace BK386 := Aside0.mk (blk_grown (qB BK386.out) hg (by simp [Value.ownBlock]))
                                       replace BK389 := Aside0.mk (blk_grown (qB BK389.out) hg (by simp [Value.ownBlock]))
                                       replace BK392 := Aside0.mk (blk_grown (qB BK392.out) hg (by simp [Value.ownBlock]))
                                       replace BK395 := Aside0.mk (blk_grown (qB BK395.out) hg (by simp [Value.ownBlock]))
                                       replace BK401 := Aside0.mk (blk_grown (qB BK401.out) hg (by simp [Value.ownBlock]))
                                       replace BK405 := Aside0.mk (blk_grown (qB BK405.out) hg (by simp [Value.ownBlock]))
                                       replace BK409 := Aside0.mk (blk_grown (qB BK409.out) hg (by simp [Value.ownBlock]))
                                       replace BK436 := Aside0.mk (blk_grown (qB BK436.out) hg (by simp [Value.ownBlock]))
                                       replace HB := Aside0.mk (hb)
                                       replace HR440 := Aside0.mk ((show Kd.C k26 w204 (some ad431) y437.length y437 from by rw [Ny437.out]; exact Kd.C_take (m := ((ji179) : Int).toNat) ((Kd.R_reads' (Kd.R_after (Kd.R_apart_nil (qR HO_20.out)) hg hat)).2.2) KL203.out))
                                       replace HO_20 := Aside0.mk (Kd.R_after (Kd.R_apart_nil (qR HO_20.out)) hg hat)
                                       have HO443 := Aside0.mk (ho)
                                       clear ho hb hg hat
                                       refine hK.out _ _ ⟨(blk_cell BK436.out 0).trans rfl, (blk_cell BK436.out 1).trans rfl⟩ (fun hHeld => ?_)
                                       clear hK K
                                       refine norm_ (a' := ?_) ?_ ?_
                                       rotate_left
                                       · show Act.put _ (some 169) _ = _
                                         simp only [Act.put, qa_, qz_, qs_, i64_w, i32_w]
                                         rfl
                                       refine one_ (i := 7) (N := some 171) #[true, true, true, true, true, true, true, true, false, false] rfl rfl (one_of HT_.out (by kernel_rfl)) (by decide) (fun K hK => ?_)
                                       refine Kd.R_lit_step k26 _ 26 ?hg (N := 171) ?hd (xs := ([(⟨t433, t434⟩ : S26)] : List (S26))) (inner := [.int .i64 t433, .int .i64 t434]) (ok := fun _ => True) (okp := fun _ => True) ?hr ?hp (fun _ hk => hk) trivial (Below.refl _ _) (Nat.le_refl _) (by simp) ?_; (case hd => rfl); (case hg => rfl); (case hr => first | (go_simp; done) | (go_simp; rfl)); (case hp => exact (Reps.c2 (show Kd.M k26 _ _ _ (⟨t433, t434⟩ : S26) [.int .i64 t433, .int .i64 t434] from (k26_mkM _ _ _ (⟨t433, t434⟩ : S26) )) (Reps.none _ _)))
                                       intro v445 w205 ho206 hb hg_ hnew_
                                       clear hg_ hnew_
                                       (first | rw [← Ny444.out] at ho206 | (simp only [Int.reduceToNat] at ho206; rw [← Ny444.out] at ho206))
                                       replace HO_387002 := qE HO_387002 hb
                                       have HO446 := Aside0.mk (Kd.R_lower (Kd.R_newB (Kd.R_newB (Kd.R_newB (Kd.R_newB (Kd.R_newB (Kd.R_newB (Kd.R_newB (Kd.R_new' (Kd.R_new' (Kd.R_new' (Kd.R_new' ho206 (Kd.R_lt (qR HO_20.out))) (Kd.R_lt (qR HO_22.out))) (Kd.R_lt (qR HO_24.out))) (Kd.R_lt (qR HO443.out))) (qB BK389.out)) (qB BK392.out)) (qB BK395.out)) (qB BK401.out)) (qB BK405.out)) (qB BK409.out)) (qB BK436.out)) (below_size (qW HB.out)))
                                       replace HO_20 := Aside0.mk (Kd.R_elder' (qR HO_20.out) (Kd.R_base ho206) hb)
                                       replace HO_22 := Aside0.mk (Kd.R_elder' (qR HO_22.out) (Kd.R_base ho206) hb)
                                       replace HO_24 := Aside0.mk (Kd.R_elder' (qR HO_24.out) (Kd.R_base ho206) hb)
                                       replace HO443 := Aside0.mk (Kd.R_elder' (qR HO443.out) (Kd.R_base ho206) hb)
                                       replace BK378 := qD BK378 hb
                                       replace BK379 := qD BK379 hb
                                       replace BK386 := qD BK386 hb
                                       replace BK389 := qD BK389 hb
                                       replace BK392 := qD BK392 hb
                                       replace BK395 := qD BK395 hb
                                       replace BK401 := qD BK401 hb
                                       replace BK405 := qD BK405 hb
                                       replace BK409 := qD BK409 hb
                                       replace BK436 := qD BK436 hb
                                       replace HR440 := Aside0.mk (Kd.C_below (by repeat (first | (with_reducible exact HR440.out) | (with_reducible refine Kd.C_alloc ?_ _) | (with_reducible refine Kd.C_drewN ?_ _) | (with_reducible refine Kd.C_drew ?_) | exact HR440.out)) hb)
                                       replace HB := Aside0.mk (below_step (qW HB.out) hb)
                                       clear hb ho206
                                       refine hK.out _ _ ⟨(blk_cell BK436.out 0).trans rfl, (blk_cell BK436.out 1).trans rfl⟩ (fun hHeld => ?_)
                                       clear hK K
                                       refine norm_ (a' := ?_) ?_ ?_
                                       rotate_left
                                       · show Act.put _ (some 171) _ = _
                                         simp only [Act.put, qa_, qz_, qs_, i64_w, i32_w]
                                         rfl
                                       exact norm_ (by simp only [putAll, Act.put, qa_, qz_, qs_]) (hCont (v442, v445) _ ⟨hHeld, (qR (Kd.R_mono HO443.out (fun _ hk => ⟨hk.2, ⟨hk.1.1, ⟨hk.1.2.1, ⟨hk.1.2.2.1, ⟨hk.1.2.2.2.1, ⟨hk.1.2.2.2.2.1, ⟨hk.1.2.2.2.2.2.1, ⟨hk.1.2.2.2.2.2.2.1, ⟨hk.1.2.2.2.2.2.2.2.1, ⟨hk.1.2.2.2.2.2.2.2.2.1, hk.1.2.2.2.2.2.2.2.2.2⟩⟩⟩⟩⟩⟩⟩⟩⟩⟩))), (qR (Kd.R_mono HO446.out (fun _ hk => ⟨hk.1.1.1.1.1.1.1.2, ⟨hk.1.1.1.1.1.1.1.1.1.1.2, ⟨hk.1.1.1.1.1.1.1.1.1.2, ⟨hk.1.1.1.1.1.1.1.1.2, ⟨hk.1.1.1.1.1.1.2, ⟨hk.1.1.1.1.1.2, ⟨hk.1.1.1.1.2, ⟨hk.1.1.1.2, ⟨hk.1.1.2, ⟨hk.1.2, hk.2⟩⟩⟩⟩⟩⟩⟩⟩⟩⟩))), (qR (Kd.R_mono HO_20.out (fun _ hk => ⟨hk.1.2, ⟨hk.2, ⟨hk.1.1.1, ⟨hk.1.1.2.1, ⟨hk.1.1.2.2.1, ⟨hk.1.1.2.2.2.1, ⟨hk.1.1.2.2.2.2.1, ⟨hk.1.1.2.2.2.2.2.1, ⟨hk.1.1.2.2.2.2.2.2.1, ⟨hk.1.1.2.2.2.2.2.2.2.1, hk.1.1.2.2.2.2.2.2.2.2⟩⟩⟩⟩⟩⟩⟩⟩⟩⟩))), (qR (Kd.R_mono HO_22.out (fun _ hk => ⟨hk.1.2, ⟨hk.2, ⟨hk.1.1.1, ⟨hk.1.1.2.1, ⟨hk.1.1.2.2.1, ⟨hk.1.1.2.2.2.1, ⟨hk.1.1.2.2.2.2.1, ⟨hk.1.1.2.2.2.2.2.1, ⟨hk.1.1.2.2.2.2.2.2.1, ⟨hk.1.1.2.2.2.2.2.2.2.1, hk.1.1.2.2.2.2.2.2.2.2⟩⟩⟩⟩⟩⟩⟩⟩⟩⟩))), (qR (Kd.R_mono HO_24.out (fun _ hk => ⟨hk.1.2, ⟨hk.2, ⟨hk.1.1.1, ⟨hk.1.1.2.1, ⟨hk.1.1.2.2.1, ⟨hk.1.1.2.2.2.1, ⟨hk.1.1.2.2.2.2.1, ⟨hk.1.1.2.2.2.2.2.1, ⟨hk.1.1.2.2.2.2.2.2.1, ⟨hk.1.1.2.2.2.2.2.2.2.1, hk.1.1.2.2.2.2.2.2.2.2⟩⟩⟩⟩⟩⟩⟩⟩⟩⟩))), (qR HO_387002.out), (qB BK378.out), (qB BK379.out), (qB BK386.out), (qB BK389.out), (qB BK392.out), (qB BK395.out), (qB BK401.out), (qB BK405.out), (qB BK409.out), (qB BK436.out), (qW HB.out)⟩)
                                     · skip
                                       refine Kd.R_lit_step k26 _ 26 ?hg (N := 171) ?hd (xs := ([(⟨t433, t434⟩ : S26)] : List (S26))) (inner := [.int .i64 t433, .int .i64 t434]) (ok := fun _ => True) (okp := fun _ => True) ?hr ?hp (fun _ hk => hk) trivial (Below.refl _ _) (Nat.le_refl _) (by simp) ?_; (case hd => rfl); (case hg => rfl); (case hr => first | (go_simp; done) | (go_simp; rfl)); (case hp => exact (Reps.c2 (show Kd.M k26 _ _ _ (⟨t433, t434⟩ : S26) [.int .i64 t433, .int .i64 t434] from (k26_mkM _ _ _ (⟨t433, t434⟩ : S26) )) (Reps.none _ _)))
                                       intro v445 w204 ho205 hb hg_ hnew_
                                       clear hg_ hnew_
                                       (first | rw [← Ny444.out] at ho205 | (simp only [Int.reduceToNat] at ho205; rw [← Ny444.out] at ho205))
                                       replace HO_387002 := qE HO_387002 hb
                                       have HO446 := Aside0.mk (Kd.R_lower (Kd.R_newB (Kd.R_newB (Kd.R_newB (Kd.R_newB (Kd.R_newB (Kd.R_newB (Kd.R_newB (Kd.R_new' (Kd.R_new' (Kd.R_new' ho205 (Kd.R_lt (qR HO_20.out))) (Kd.R_lt (qR HO_22.out))) (Kd.R_lt (qR HO_24.out))) (qB BK389.out)) (qB BK392.out)) (qB BK395.out)) (qB BK401.out)) (qB BK405.out)) (qB BK409.out)) (qB BK436.out)) (below_size (qW HB.out)))
                                       replace HO_20 := Aside0.mk (Kd.R_elder' (qR HO_20.out) (Kd.R_base ho205) hb)
                                       replace HO_22 := Aside0.mk (Kd.R_elder' (qR HO_22.out) (Kd.R_base ho205) hb)
                                       replace HO_24 := Aside0.mk (Kd.R_elder' (qR HO_24.out) (Kd.R_base ho205) hb)
                                       replace BK378 := qD BK378 hb
                                       replace BK379 := qD BK379 hb
                                       replace BK386 := qD BK386 hb
                                       replace BK389 := qD BK389 hb
                                       replace BK392 := qD BK392 hb
                                       replace BK395 := qD BK395 hb
                                       replace BK401 := qD BK401 hb
                                       replace BK405 := qD BK405 hb
                                       replace BK409 := qD BK409 hb
                                       replace BK436 := qD BK436 hb
                                       replace HR440 := Aside0.mk (Kd.C_below (by repeat (first | (with_reducible exact HR440.out) | (with_reducible refine Kd.C_alloc ?_ _) | (with_reducible refine Kd.C_drewN ?_ _) | (with_reducible refine Kd.C_drew ?_) | exact HR440.out)) hb)
                                       replace HB := Aside0.mk (below_step (qW HB.out) hb)
                                       clear hb ho205
                                       refine hK.out _ _ ⟨(blk_cell BK436.out 0).trans rfl, (blk_cell BK436.out 1).trans rfl⟩ (fun hHeld => ?_)
                                       clear hK K
                                       refine norm_ (a' := ?_) ?_ ?_
                                       rotate_left
                                       · show Act.put _ (some 171) _ = _
                                         simp only [Act.put, qa_, qz_, qs_, i64_w, i32_w]
                                         rfl
                                       refine one_ (i := 5) (N := some 169) #[true, true, true, true, true, true, true, true, false, false] rfl rfl (one_of HT_.out (by kernel_rfl)) (by decide) (fun K hK => ?_)
                                       refine Kd.R_append_rows_step k26 (w0 := w) w.heap.size (by rfl) (.const (.slice none 0 0)) (.tmp 168) 33 26 (.agg #[(.int .i64 0), (.int .i64 0)]) 16 rfl Try.underlying33 info26 rfl (by decide) (by omega) (.slice none 0 0) ([] : List (S26)) y437 _ _ _ (fun k_ => some k_ ≠ (.slice (some ad431) t410.length co194 : Value).ownBlock ∧ some k_ ≠ (.slice (some ad432) t414.length co195 : Value).ownBlock ∧ some k_ ≠ (v419 : Value).ownBlock ∧ some k_ ≠ (v445 : Value).ownBlock ∧ k_ ≠ gb389 ∧ k_ ≠ gb392 ∧ k_ ≠ gb395 ∧ k_ ≠ gb401 ∧ k_ ≠ gb405 ∧ k_ ≠ gb409 ∧ k_ ≠ gb436) (fun _ => False) rfl rfl ?aO ?aR (fun _ _ h => h) (fun _ h => h.elim) ?aF ?aB ?aS ?aL ?_
                                       (case aR => repeat (first | exact (by repeat (first | (with_reducible exact HR440.out) | (with_reducible refine Kd.C_alloc ?_ _) | (with_reducible refine Kd.C_drewN ?_ _) | (with_reducible refine Kd.C_drew ?_) | exact HR440.out)) | (with_reducible refine Kd.C_alloc ?_ _) | (with_reducible refine Kd.C_drewN ?_ _) | (with_reducible refine Kd.C_drew ?_)))
                                       (case aB => exact (qW HB.out))
                                       (case aF => exact (fun k_ hk => ⟨Kd.fresh' (Kd.R_lt (qR HO_20.out)) k_ hk, Kd.fresh' (Kd.R_lt (qR HO_22.out)) k_ hk, Kd.fresh' (Kd.R_lt (qR HO_24.out)) k_ hk, Kd.fresh' (Kd.R_lt (qR HO446.out)) k_ hk, Kd.freshB (qB BK389.out) k_ hk, Kd.freshB (qB BK392.out) k_ hk, Kd.freshB (qB BK395.out) k_ hk, Kd.freshB (qB BK401.out) k_ hk, Kd.freshB (qB BK405.out) k_ hk, Kd.freshB (qB BK409.out) k_ hk, Kd.freshB (qB BK436.out) k_ hk⟩))
                                       (case aO => exact ((Kd.R_nil _ _ _ _ (fun k_ => some k_ ≠ (.slice (some ad431) t410.length co194 : Value).ownBlock ∧ some k_ ≠ (.slice (some ad432) t414.length co195 : Value).ownBlock ∧ some k_ ≠ (v419 : Value).ownBlock ∧ some k_ ≠ (v445 : Value).ownBlock ∧ k_ ≠ gb389 ∧ k_ ≠ gb392 ∧ k_ ≠ gb395 ∧ k_ ≠ gb401 ∧ k_ ≠ gb405 ∧ k_ ≠ gb409 ∧ k_ ≠ gb436))))
                                       (case aS => exact (below_size (qW HB.out)))
                                       (case aL => have := LMc186.out; omega)
                                       intro v442 w206 ho hb hg hat
                                       rw [← Ny441.out] at ho
                                       replace HO_22 := Aside0.mk (Kd.R_after (Kd.R_apart_nil (qR HO_22.out)) hg hat)
                                       replace HO_24 := Aside0.mk (Kd.R_after (Kd.R_apart_nil (qR HO_24.out)) hg hat)
                                       replace HO_387002 := Aside0.mk (Kd.R_grown (qR HO_387002.out) hg (fun _ _ => by simp [Value.ownBlock]))
                                       replace BK378 := Aside0.mk (blk_grown (qB BK378.out) hg (by simp [Value.ownBlock]))
                                       replace BK379 := Aside0.mk (blk_grown (qB BK379.out) hg (by simp [Value.ownBlock]))
                                       replace BK386 := Aside0.mk (blk_grown (qB BK386.out) hg (by simp [Value.ownBlock]))
                                       replace BK389 := Aside0.mk (blk_grown (qB BK389.out) hg (by simp [Value.ownBlock]))
                                       replace BK392 := Aside0.mk (blk_grown (qB BK392.out) hg (by simp [Value.ownBlock]))
                                       replace BK395 := Aside0.mk (blk_grown (qB BK395.out) hg (by simp [Value.ownBlock]))
                                       replace BK401 := Aside0.mk (blk_grown (qB BK401.out) hg (by simp [Value.ownBlock]))
                                       replace BK405 := Aside0.mk (blk_grown (qB BK405.out) hg (by simp [Value.ownBlock]))
                                       replace BK409 := Aside0.mk (blk_grown (qB BK409.out) hg (by simp [Value.ownBlock]))
                                       replace BK436 := Aside0.mk (blk_grown (qB BK436.out) hg (by simp [Value.ownBlock]))
                                       replace HO446 := Aside0.mk (Kd.R_after (Kd.R_apart_nil (qR HO446.out)) hg hat)
                                       replace HB := Aside0.mk (hb)
                                       replace HR440 := Aside0.mk ((show Kd.C k26 w206 (some ad431) y437.length y437 from by rw [Ny437.out]; exact Kd.C_take (m := ((ji179) : Int).toNat) ((Kd.R_reads' (Kd.R_after (Kd.R_apart_nil (qR HO_20.out)) hg hat)).2.2) KL203.out))
                                       replace HO_20 := Aside0.mk (Kd.R_after (Kd.R_apart_nil (qR HO_20.out)) hg hat)
                                       have HO443 := Aside0.mk (ho)
                                       clear ho hb hg hat
                                       refine hK.out _ _ ⟨(blk_cell BK436.out 0).trans rfl, (blk_cell BK436.out 1).trans rfl⟩ (fun hHeld => ?_)
                                       clear hK K
                                       refine norm_ (a' := ?_) ?_ ?_
                                       rotate_left
                                       · show Act.put _ (some 169) _ = _
                                         simp only [Act.put, qa_, qz_, qs_, i64_w, i32_w]
                                         rfl
                                       exact norm_ (by simp only [putAll, Act.put, qa_, qz_, qs_]) (hCont (v442, v445) _ ⟨hHeld, (qR (Kd.R_mono HO443.out (fun _ hk => ⟨hk.2.2.2.1, ⟨hk.1, ⟨hk.2.1, ⟨hk.2.2.1, ⟨hk.2.2.2.2.1, ⟨hk.2.2.2.2.2.1, ⟨hk.2.2.2.2.2.2.1, ⟨hk.2.2.2.2.2.2.2.1, ⟨hk.2.2.2.2.2.2.2.2.1, ⟨hk.2.2.2.2.2.2.2.2.2.1, hk.2.2.2.2.2.2.2.2.2.2⟩⟩⟩⟩⟩⟩⟩⟩⟩⟩))), (qR (Kd.R_mono HO446.out (fun _ hk => ⟨hk.2, ⟨hk.1.1.1.1.1.1.1.1.1.1.2, ⟨hk.1.1.1.1.1.1.1.1.1.2, ⟨hk.1.1.1.1.1.1.1.1.2, ⟨hk.1.1.1.1.1.1.1.2, ⟨hk.1.1.1.1.1.1.2, ⟨hk.1.1.1.1.1.2, ⟨hk.1.1.1.1.2, ⟨hk.1.1.1.2, ⟨hk.1.1.2, hk.1.2⟩⟩⟩⟩⟩⟩⟩⟩⟩⟩))), (qR (Kd.R_mono HO_20.out (fun _ hk => ⟨hk.2, ⟨hk.1.2, ⟨hk.1.1.1, ⟨hk.1.1.2.1, ⟨hk.1.1.2.2.1, ⟨hk.1.1.2.2.2.1, ⟨hk.1.1.2.2.2.2.1, ⟨hk.1.1.2.2.2.2.2.1, ⟨hk.1.1.2.2.2.2.2.2.1, ⟨hk.1.1.2.2.2.2.2.2.2.1, hk.1.1.2.2.2.2.2.2.2.2⟩⟩⟩⟩⟩⟩⟩⟩⟩⟩))), (qR (Kd.R_mono HO_22.out (fun _ hk => ⟨hk.2, ⟨hk.1.2, ⟨hk.1.1.1, ⟨hk.1.1.2.1, ⟨hk.1.1.2.2.1, ⟨hk.1.1.2.2.2.1, ⟨hk.1.1.2.2.2.2.1, ⟨hk.1.1.2.2.2.2.2.1, ⟨hk.1.1.2.2.2.2.2.2.1, ⟨hk.1.1.2.2.2.2.2.2.2.1, hk.1.1.2.2.2.2.2.2.2.2⟩⟩⟩⟩⟩⟩⟩⟩⟩⟩))), (qR (Kd.R_mono HO_24.out (fun _ hk => ⟨hk.2, ⟨hk.1.2, ⟨hk.1.1.1, ⟨hk.1.1.2.1, ⟨hk.1.1.2.2.1, ⟨hk.1.1.2.2.2.1, ⟨hk.1.1.2.2.2.2.1, ⟨hk.1.1.2.2.2.2.2.1, ⟨hk.1.1.2.2.2.2.2.2.1, ⟨hk.1.1.2.2.2.2.2.2.2.1, hk.1.1.2.2.2.2.2.2.2.2⟩⟩⟩⟩⟩⟩⟩⟩⟩⟩))), (qR HO_387002.out), (qB BK378.out), (qB BK379.out), (qB BK386.out), (qB BK389.out), (qB BK392.out), (qB BK395.out), (qB BK401.out), (qB BK405.out), (qB BK409.out), (qB BK436.out), (qW HB.out)⟩)
                                   rintro ⟨v442, v445⟩ w207 ⟨hS_, h0_, h1_, h2_, h3_, h4_, h5_, h6_, h7_, h8_, h9_, h10_, h11_, h12_, h13_, h14_, h15_, h16_⟩
                                   have HO443 : Aside0 (Kd.R k26 26 w207 w.heap.size (fun k_ => some k_ ≠ (v445 : Value).ownBlock ∧ some k_ ≠ (.slice (some ad431) t410.length co194 : Value).ownBlock ∧ some k_ ≠ (.slice (some ad432) t414.length co195 : Value).ownBlock ∧ some k_ ≠ (v419 : Value).ownBlock ∧ k_ ≠ gb389 ∧ k_ ≠ gb392 ∧ k_ ≠ gb395 ∧ k_ ≠ gb401 ∧ k_ ≠ gb405 ∧ k_ ≠ gb409 ∧ k_ ≠ gb436) v442 y441) := ⟨h0_⟩
                                   have HO446 : Aside0 (Kd.R k26 26 w207 w.heap.size (fun k_ => some k_ ≠ (v442 : Value).ownBlock ∧ some k_ ≠ (.slice (some ad431) t410.length co194 : Value).ownBlock ∧ some k_ ≠ (.slice (some ad432) t414.length co195 : Value).ownBlock ∧ some k_ ≠ (v419 : Value).ownBlock ∧ k_ ≠ gb389 ∧ k_ ≠ gb392 ∧ k_ ≠ gb395 ∧ k_ ≠ gb401 ∧ k_ ≠ gb405 ∧ k_ ≠ gb409 ∧ k_ ≠ gb436) v445 y444) := ⟨h1_⟩
                                   replace HO_20 : Aside0 (Kd.R k26 26 w207 w.heap.size (fun k_ => some k_ ≠ (v442 : Value).ownBlock ∧ some k_ ≠ (v445 : Value).ownBlock ∧ some k_ ≠ (.slice (some ad432) t414.length co195 : Value).ownBlock ∧ some k_ ≠ (v419 : Value).ownBlock ∧ k_ ≠ gb389 ∧ k_ ≠ gb392 ∧ k_ ≠ gb395 ∧ k_ ≠ gb401 ∧ k_ ≠ gb405 ∧ k_ ≠ gb409 ∧ k_ ≠ gb436) (.slice (some ad431) t410.length co194) t410) := ⟨h2_⟩
                                   replace HO_22 : Aside0 (Kd.R k26 26 w207 w.heap.size (fun k_ => some k_ ≠ (v442 : Value).ownBlock ∧ some k_ ≠ (v445 : Value).ownBlock ∧ some k_ ≠ (.slice (some ad431) t410.length co194 : Value).ownBlock ∧ some k_ ≠ (v419 : Value).ownBlock ∧ k_ ≠ gb389 ∧ k_ ≠ gb392 ∧ k_ ≠ gb395 ∧ k_ ≠ gb401 ∧ k_ ≠ gb405 ∧ k_ ≠ gb409 ∧ k_ ≠ gb436) (.slice (some ad432) t414.length co195) t414) := ⟨h3_⟩
                                   replace HO_24 : Aside0 (Kd.R k26 26 w207 w.heap.size (fun k_ => some k_ ≠ (v442 : Value).ownBlock ∧ some k_ ≠ (v445 : Value).ownBlock ∧ some k_ ≠ (.slice (some ad431) t410.length co194 : Value).ownBlock ∧ some k_ ≠ (.slice (some ad432) t414.length co195 : Value).ownBlock ∧ k_ ≠ gb389 ∧ k_ ≠ gb392 ∧ k_ ≠ gb395 ∧ k_ ≠ gb401 ∧ k_ ≠ gb405 ∧ k_ ≠ gb409 ∧ k_ ≠ gb436) v419 t418) := ⟨h4_⟩
                                   replace HO_387002 : Aside0 (Kd.R (Kd.int .i64) 3 w207 w.heap.size (fun _ => True) (.slice Ao21 t383.length co21) t383) := ⟨h5_⟩
                                   replace BK378 : Aside0 (w207.heap[gb378]? = some (.cells #[.int .i64 a0_0, .int .i64 a0_1, .slice A0_2 l0_2.length c0_2] 24 (0, 0))) := ⟨h6_⟩
                                   replace BK379 : Aside0 (w207.heap[gb379]? = some (.cells #[.int .i64 a2_0, .int .i64 a2_1, .int .i64 a2_2] 50 (0, 0))) := ⟨h7_⟩
                                   replace BK386 : Aside0 (w207.heap[gb386]? = some (.cells #[.int .i64 t381, .int .i64 t382, .slice Ao21 t383.length co21] 24 (0, 0))) := ⟨h8_⟩
                                   replace BK389 : Aside0 (w207.heap[gb389]? = some (.cells #[.int .i64 t387, .int .i64 t388] 26 (0, 0))) := ⟨h9_⟩
                                   replace BK392 : Aside0 (w207.heap[gb392]? = some (.cells #[.int .i64 t390, .int .i64 t391] 26 (0, 0))) := ⟨h10_⟩
                                   replace BK395 : Aside0 (w207.heap[gb395]? = some (.cells #[.int .i64 t393, .int .i64 t394] 26 (0, 0))) := ⟨h11_⟩
                                   replace BK401 : Aside0 (w207.heap[gb401]? = some (.cells #[.int .i64 t398, .int .i64 t399] 26 (0, 0))) := ⟨h12_⟩
                                   replace BK405 : Aside0 (w207.heap[gb405]? = some (.cells #[.int .i64 t402, .int .i64 t403] 26 (0, 0))) := ⟨h13_⟩
                                   replace BK409 : Aside0 (w207.heap[gb409]? = some (.cells #[.int .i64 t406, .int .i64 t407] 26 (0, 0))) := ⟨h14_⟩
                                   replace BK436 : Aside0 (w207.heap[gb436]? = some (.cells #[.int .i64 t433, .int .i64 t434] 26 (0, 0))) := ⟨h15_⟩
                                   replace HB : Aside0 (Below w.heap.size w w207) := ⟨h16_⟩
                                   clear h0_ h1_ h2_ h3_ h4_ h5_ h6_ h7_ h8_ h9_ h10_ h11_ h12_ h13_ h14_ h15_ h16_
                                   have hHeld : w207.cell? ⟨gb436, 0, none⟩ = some (.int .i64 t433) ∧ w207.cell? ⟨gb436, 1, none⟩ = some (.int .i64 t434) := hS_
                                   obtain ⟨Ao209, co209, eo209⟩ := Kd.R_slice HO446.out
                                   (first | subst eo209 | (injection eo209 with f1_ f2_ f3_; have f4_ := f1_.symm; have f5_ := f3_.symm; clear f1_ f2_ f3_; subst f4_; subst f5_))
                                   refine norm_ (a' := ?_) ?_ ?_
                                   rotate_left
                                   · simp only [putAll, Act.put, qa_, qz_, qs_]
                                     rfl
                                   refine one_ (i := 8) (N := some 172) #[true, true, true, true, true, true, true, true, true, false] rfl rfl (one_of HT_.out (by kernel_rfl)) (by decide) (fun K hK => ?_)
                                   refine Kd.R_append_rows_step k26 (w0 := w) w.heap.size (by rfl) (.tmp 169) (.tmp 171) 33 26 (.agg #[(.int .i64 0), (.int .i64 0)]) 16 rfl Try.underlying33 info26 rfl (by decide) (by omega) v442 y441 y444 _ _ _ (fun k_ => some k_ ≠ (.slice (some ad431) t410.length co194 : Value).ownBlock ∧ some k_ ≠ (.slice (some ad432) t414.length co195 : Value).ownBlock ∧ some k_ ≠ (v419 : Value).ownBlock ∧ some k_ ≠ (.slice Ao209 y444.length co209 : Value).ownBlock ∧ k_ ≠ gb389 ∧ k_ ≠ gb392 ∧ k_ ≠ gb395 ∧ k_ ≠ gb401 ∧ k_ ≠ gb405 ∧ k_ ≠ gb409 ∧ k_ ≠ gb436) (fun _ => False) rfl rfl ?aO ?aR (fun _ _ h => h) (fun _ h => h.elim) ?aF ?aB ?aS ?aL ?_
                                   (case aR => repeat (first | exact (Kd.R_reads' HO446.out).2.2 | (with_reducible refine Kd.C_alloc ?_ _) | (with_reducible refine Kd.C_drewN ?_ _) | (with_reducible refine Kd.C_drew ?_)))
                                   (case aB => exact (qW HB.out))
                                   (case aF => exact (fun k_ hk => ⟨Kd.fresh' (Kd.R_lt (qR HO_20.out)) k_ hk, Kd.fresh' (Kd.R_lt (qR HO_22.out)) k_ hk, Kd.fresh' (Kd.R_lt (qR HO_24.out)) k_ hk, Kd.fresh' (Kd.R_lt (qR HO446.out)) k_ hk, Kd.freshB (qB BK389.out) k_ hk, Kd.freshB (qB BK392.out) k_ hk, Kd.freshB (qB BK395.out) k_ hk, Kd.freshB (qB BK401.out) k_ hk, Kd.freshB (qB BK405.out) k_ hk, Kd.freshB (qB BK409.out) k_ hk, Kd.freshB (qB BK436.out) k_ hk⟩))
                                   (case aO => exact (qR (Kd.R_mono HO443.out (fun _ hk => ⟨hk.2.1, ⟨hk.2.2.1, ⟨hk.2.2.2.1, ⟨hk.1, ⟨hk.2.2.2.2.1, ⟨hk.2.2.2.2.2.1, ⟨hk.2.2.2.2.2.2.1, ⟨hk.2.2.2.2.2.2.2.1, ⟨hk.2.2.2.2.2.2.2.2.1, ⟨hk.2.2.2.2.2.2.2.2.2.1, hk.2.2.2.2.2.2.2.2.2.2⟩⟩⟩⟩⟩⟩⟩⟩⟩⟩))))
                                   (case aS => exact (below_size (qW HB.out)))
                                   (case aL => have := LMc187.out; omega)
                                   intro v448 w208 ho hb hg hat
                                   rw [← Ny447.out] at ho
                                   replace HO_20 := Aside0.mk (Kd.R_after (ok := (fun k_ => some k_ ≠ (.slice (some ad432) t414.length co195 : Value).ownBlock ∧ some k_ ≠ (v419 : Value).ownBlock ∧ some k_ ≠ (.slice Ao209 y444.length co209 : Value).ownBlock ∧ k_ ≠ gb389 ∧ k_ ≠ gb392 ∧ k_ ≠ gb395 ∧ k_ ≠ gb401 ∧ k_ ≠ gb405 ∧ k_ ≠ gb409 ∧ k_ ≠ gb436)) (qR (Kd.R_mono HO_20.out (fun _ hk => ⟨⟨hk.2.2.1, ⟨hk.2.2.2.1, ⟨hk.2.1, ⟨hk.2.2.2.2.1, ⟨hk.2.2.2.2.2.1, ⟨hk.2.2.2.2.2.2.1, ⟨hk.2.2.2.2.2.2.2.1, ⟨hk.2.2.2.2.2.2.2.2.1, ⟨hk.2.2.2.2.2.2.2.2.2.1, hk.2.2.2.2.2.2.2.2.2.2⟩⟩⟩⟩⟩⟩⟩⟩⟩, hk.1⟩))) hg hat)
                                   replace HO_22 := Aside0.mk (Kd.R_after (ok := (fun k_ => some k_ ≠ (.slice (some ad431) t410.length co194 : Value).ownBlock ∧ some k_ ≠ (v419 : Value).ownBlock ∧ some k_ ≠ (.slice Ao209 y444.length co209 : Value).ownBlock ∧ k_ ≠ gb389 ∧ k_ ≠ gb392 ∧ k_ ≠ gb395 ∧ k_ ≠ gb401 ∧ k_ ≠ gb405 ∧ k_ ≠ gb409 ∧ k_ ≠ gb436)) (qR (Kd.R_mono HO_22.out (fun _ hk => ⟨⟨hk.2.2.1, ⟨hk.2.2.2.1, ⟨hk.2.1, ⟨hk.2.2.2.2.1, ⟨hk.2.2.2.2.2.1, ⟨hk.2.2.2.2.2.2.1, ⟨hk.2.2.2.2.2.2.2.1, ⟨hk.2.2.2.2.2.2.2.2.1, ⟨hk.2.2.2.2.2.2.2.2.2.1, hk.2.2.2.2.2.2.2.2.2.2⟩⟩⟩⟩⟩⟩⟩⟩⟩, hk.1⟩))) hg hat)
                                   replace HO_24 := Aside0.mk (Kd.R_after (ok := (fun k_ => some k_ ≠ (.slice (some ad431) t410.length co194 : Value).ownBlock ∧ some k_ ≠ (.slice (some ad432) t414.length co195 : Value).ownBlock ∧ some k_ ≠ (.slice Ao209 y444.length co209 : Value).ownBlock ∧ k_ ≠ gb389 ∧ k_ ≠ gb392 ∧ k_ ≠ gb395 ∧ k_ ≠ gb401 ∧ k_ ≠ gb405 ∧ k_ ≠ gb409 ∧ k_ ≠ gb436)) (qR (Kd.R_mono HO_24.out (fun _ hk => ⟨⟨hk.2.2.1, ⟨hk.2.2.2.1, ⟨hk.2.1, ⟨hk.2.2.2.2.1, ⟨hk.2.2.2.2.2.1, ⟨hk.2.2.2.2.2.2.1, ⟨hk.2.2.2.2.2.2.2.1, ⟨hk.2.2.2.2.2.2.2.2.1, ⟨hk.2.2.2.2.2.2.2.2.2.1, hk.2.2.2.2.2.2.2.2.2.2⟩⟩⟩⟩⟩⟩⟩⟩⟩, hk.1⟩))) hg hat)
                                   replace HO_387002 := Aside0.mk (Kd.R_over' (qR HO_387002.out) (Kd.R_typed (qR HO443.out)) (by decide) hg)
                                   replace BK378 := Aside0.mk (blk_grown (qB BK378.out) hg (Kd.R_ne HO443.out BK378.out (by decide)))
                                   replace BK379 := Aside0.mk (blk_grown (qB BK379.out) hg (Kd.R_ne HO443.out BK379.out (by decide)))
                                   replace BK386 := Aside0.mk (blk_grown (qB BK386.out) hg (Kd.R_ne HO443.out BK386.out (by decide)))
                                   replace BK389 := Aside0.mk (blk_grown (qB BK389.out) hg (Kd.R_away HO443.out (fun _ hk => hk.2.2.2.2.1)))
                                   replace BK392 := Aside0.mk (blk_grown (qB BK392.out) hg (Kd.R_away HO443.out (fun _ hk => hk.2.2.2.2.2.1)))
                                   replace BK395 := Aside0.mk (blk_grown (qB BK395.out) hg (Kd.R_away HO443.out (fun _ hk => hk.2.2.2.2.2.2.1)))
                                   replace BK401 := Aside0.mk (blk_grown (qB BK401.out) hg (Kd.R_away HO443.out (fun _ hk => hk.2.2.2.2.2.2.2.1)))
                                   replace BK405 := Aside0.mk (blk_grown (qB BK405.out) hg (Kd.R_away HO443.out (fun _ hk => hk.2.2.2.2.2.2.2.2.1)))
                                   replace BK409 := Aside0.mk (blk_grown (qB BK409.out) hg (Kd.R_away HO443.out (fun _ hk => hk.2.2.2.2.2.2.2.2.2.1)))
                                   replace BK436 := Aside0.mk (blk_grown (qB BK436.out) hg (Kd.R_away HO443.out (fun _ hk => hk.2.2.2.2.2.2.2.2.2.2)))
                                   replace HO446 := Aside0.mk (Kd.R_after (ok := (fun k_ => some k_ ≠ (.slice (some ad431) t410.length co194 : Value).ownBlock ∧ some k_ ≠ (.slice (some ad432) t414.length co195 : Value).ownBlock ∧ some k_ ≠ (v419 : Value).ownBlock ∧ k_ ≠ gb389 ∧ k_ ≠ gb392 ∧ k_ ≠ gb395 ∧ k_ ≠ gb401 ∧ k_ ≠ gb405 ∧ k_ ≠ gb409 ∧ k_ ≠ gb436)) (qR (Kd.R_mono HO446.out (fun _ hk => ⟨⟨hk.2.1, ⟨hk.2.2.1, ⟨hk.2.2.2.1, ⟨hk.2.2.2.2.1, ⟨hk.2.2.2.2.2.1, ⟨hk.2.2.2.2.2.2.1, ⟨hk.2.2.2.2.2.2.2.1, ⟨hk.2.2.2.2.2.2.2.2.1, ⟨hk.2.2.2.2.2.2.2.2.2.1, hk.2.2.2.2.2.2.2.2.2.2⟩⟩⟩⟩⟩⟩⟩⟩⟩, hk.1⟩))) hg hat)
                                   replace HB := Aside0.mk (hb)
                                   have HO449 := Aside0.mk (ho)
                                   clear HO443
                                   clear ho hb hg hat
                                   refine hK.out _ _ ⟨(blk_cell BK436.out 0).trans rfl, (blk_cell BK436.out 1).trans rfl⟩ (fun hHeld => ?_)
                                   clear hK K
                                   refine norm_ (a' := ?_) ?_ ?_
                                   rotate_left
                                   · show Act.put _ (some 172) _ = _
                                     simp only [Act.put, qa_, qz_, qs_, i64_w, i32_w]
                                     rfl
                                   refine pure_ (i := 9) (N := some 30) (v := ?_) (a' := ?_) #[true, true, true, true, true, true, true, true, true, true] rfl rfl (any_of HT_.out (by kernel_rfl)) (fun _ _ _ h => h) (Or.inl ⟨by rfl, ?_⟩) ?_ ?_
                                   rotate_left
                                   · intro w'
                                     go_simp
                                     with_reducible rfl
                                   rotate_left
                                   · simp only [Act.put, qa_, qz_, qs_, i64_w, i32_w]
                                     rfl
                                   refine done_ (done_of HT_.out (by kernel_rfl)) ?_
                                   have q210 : (1 : Int) ≤ ((t414.length : Int) : Int) := of_decide_eq_true (by first | (with_reducible assumption) | assumption)
                                   obtain ⟨i0210, hi0210, _, hsz210, _⟩ := info_parts info26
                                   have hroom210 : t414.length ≤ co195 := (Kd.R_reads' HO_22.out).2.1
                                   have hC210 : Kd.C k26 _ (some ad432) t414.length t414 := (Kd.R_reads' HO_22.out).2.2
                                   have hcut210 := cut_from (P := Try.prog) 33 26 .i64 Try.underlying33 hi0210 2 hsz210 (some ad432) t414.length co195 1 (by omega) q210
                                   have hr210 := Kd.C_drop (m := (1 : Int).toNat) (c := co195) hC210 (by omega) hroom210
                                   obtain ⟨A210, hA210⟩ : ∃ A1, A1 = (if co195 = (1 : Int).toNat then (some ad432) else ((some ad432) : Option Addr).map (·.add ((1 : Int).toNat * 2))) := ⟨_, rfl⟩
                                   obtain ⟨c210, hc210⟩ : ∃ c1, c1 = co195 - (1 : Int).toNat := ⟨_, rfl⟩
                                   have hy210 : y450.length = t414.length - (1 : Int).toNat := (by rw [Ny450.out, List.length_drop] <;> omega)
                                   rw [show (t414).drop (1 : Int).toNat = y450 from Ny450.out.symm] at hr210
                                   replace hr210 : Kd.C k26 _ A210 y450.length y450 := (by rw [hA210]; exact hr210)
                                   rw [← hy210, ← hA210, ← hc210] at hcut210
                                   have HR453 := Aside0.mk hr210
                                   have HC453 := Aside0.mk (show y450.length ≤ c210 from by rw [hy210, hc210]; exact Nat.sub_le_sub_right hroom210 _)
                                   clear hr210 hC210 hroom210 hi0210 hsz210 hc210
                                   have KY210 := Aside0.mk hy210
                                   have KA210 := Aside0.mk hA210
                                   clear hy210 hA210
                                   have KL210 := Aside0.mk (show 1 ≤ t414.length from by omega)
                                   replace q210 := eq_true q210
                                   try go_wp2_with (first | ((with_reducible refine gate_builtin (b := .append) (xs := #[.tmp 180, .tmp 182]) rfl ?_); (try (refine gate_guard (by rfl) ?_; dsimp only)); at_builtin; refine Kd.R_append_rows k26 (w0 := w) w.heap.size rfl (.tmp 180) (.tmp 182) 33 26 (.agg #[(.int .i64 0), (.int .i64 0)]) 16 rfl Try.underlying33 info26 rfl (by decide) (by omega) v448 y447 y450 _ _ _ (fun k_ => some k_ ≠ (.slice (some ad431) t410.length co194 : Value).ownBlock ∧ some k_ ≠ (.slice (some ad432) t414.length co195 : Value).ownBlock ∧ some k_ ≠ (v419 : Value).ownBlock ∧ some k_ ≠ (.slice Ao209 y444.length co209 : Value).ownBlock ∧ k_ ≠ gb389 ∧ k_ ≠ gb392 ∧ k_ ≠ gb395 ∧ k_ ≠ gb401 ∧ k_ ≠ gb405 ∧ k_ ≠ gb409 ∧ k_ ≠ gb436) (fun _ => False) rfl rfl ?aO ?aR (fun _ _ h => h) (fun _ h => h.elim) ?aF ?aB ?aS ?aL ?_; (case aR => repeat (first | exact (by repeat (first | (with_reducible exact HR453.out) | (with_reducible refine Kd.C_alloc ?_ _) | (with_reducible refine Kd.C_drewN ?_ _) | (with_reducible refine Kd.C_drew ?_) | exact HR453.out)) | (with_reducible refine Kd.C_alloc ?_ _) | (with_reducible refine Kd.C_drewN ?_ _) | (with_reducible refine Kd.C_drew ?_))); (case aB => exact (qW HB.out)); (case aF => exact (fun k_ hk => ⟨Kd.fresh' (Kd.R_lt (qR HO_20.out)) k_ hk, Kd.fresh' (Kd.R_lt (qR HO_22.out)) k_ hk, Kd.fresh' (Kd.R_lt (qR HO_24.out)) k_ hk, Kd.fresh' (Kd.R_lt (qR HO446.out)) k_ hk, Kd.freshB (qB BK389.out) k_ hk, Kd.freshB (qB BK392.out) k_ hk, Kd.freshB (qB BK395.out) k_ hk, Kd.freshB (qB BK401.out) k_ hk, Kd.freshB (qB BK405.out) k_ hk, Kd.freshB (qB BK409.out) k_ hk, Kd.freshB (qB BK436.out) k_ hk⟩)); (case aO => exact (qR HO449.out)); (case aS => exact (below_size (qW HB.out))); (case aL => have := LMc191.out; omega); intro v455 w211 ho hb hg hat; rw [← Ny454.out] at ho; replace HO_20 := Aside0.mk (Kd.R_after (ok := (fun k_ => some k_ ≠ (.slice (some ad432) t414.length co195 : Value).ownBlock ∧ some k_ ≠ (v419 : Value).ownBlock ∧ some k_ ≠ (.slice Ao209 y444.length co209 : Value).ownBlock ∧ k_ ≠ gb389 ∧ k_ ≠ gb392 ∧ k_ ≠ gb395 ∧ k_ ≠ gb401 ∧ k_ ≠ gb405 ∧ k_ ≠ gb409 ∧ k_ ≠ gb436)) (qR HO_20.out) hg hat); replace HO_24 := Aside0.mk (Kd.R_after (ok := (fun k_ => some k_ ≠ (.slice (some ad431) t410.length co194 : Value).ownBlock ∧ some k_ ≠ (.slice (some ad432) t414.length co195 : Value).ownBlock ∧ some k_ ≠ (.slice Ao209 y444.length co209 : Value).ownBlock ∧ k_ ≠ gb389 ∧ k_ ≠ gb392 ∧ k_ ≠ gb395 ∧ k_ ≠ gb401 ∧ k_ ≠ gb405 ∧ k_ ≠ gb409 ∧ k_ ≠ gb436)) (qR HO_24.out) hg hat); replace HO_387002 := Aside0.mk (Kd.R_over' (qR HO_387002.out) (Kd.R_typed (qR HO449.out)) (by decide) hg); replace BK378 := Aside0.mk (blk_grown (qB BK378.out) hg (Kd.R_ne HO449.out BK378.out (by decide))); replace BK379 := Aside0.mk (blk_grown (qB BK379.out) hg (Kd.R_ne HO449.out BK379.out (by decide))); replace BK386 := Aside0.mk (blk_grown (qB BK386.out) hg (Kd.R_ne HO449.out BK386.out (by decide))); replace BK389 := Aside0.mk (blk_grown (qB BK389.out) hg (Kd.R_away HO449.out (fun _ hk => hk.2.2.2.2.1))); replace BK392 := Aside0.mk (blk_grown (qB BK392.out) hg (Kd.R_away HO449.out (fun _ hk => hk.2.2.2.2.2.1))); replace BK395 := Aside0.mk (blk_grown (qB BK395.out) hg (Kd.R_away HO449.out (fun _ hk => hk.2.2.2.2.2.2.1))); replace BK401 := Aside0.mk (blk_grown (qB BK401.out) hg (Kd.R_away HO449.out (fun _ hk => hk.2.2.2.2.2.2.2.1))); replace BK405 := Aside0.mk (blk_grown (qB BK405.out) hg (Kd.R_away HO449.out (fun _ hk => hk.2.2.2.2.2.2.2.2.1))); replace BK409 := Aside0.mk (blk_grown (qB BK409.out) hg (Kd.R_away HO449.out (fun _ hk => hk.2.2.2.2.2.2.2.2.2.1))); replace BK436 := Aside0.mk (blk_grown (qB BK436.out) hg (Kd.R_away HO449.out (fun _ hk => hk.2.2.2.2.2.2.2.2.2.2))); replace HO446 := Aside0.mk (Kd.R_after (ok := (fun k_ => some k_ ≠ (.slice (some ad431) t410.length co194 : Value).ownBlock ∧ some k_ ≠ (.slice (some ad432) t414.length co195 : Value).ownBlock ∧ some k_ ≠ (v419 : Value).ownBlock ∧ k_ ≠ gb389 ∧ k_ ≠ gb392 ∧ k_ ≠ gb395 ∧ k_ ≠ gb401 ∧ k_ ≠ gb405 ∧ k_ ≠ gb409 ∧ k_ ≠ gb436)) (qR HO446.out) hg hat); replace HB := Aside0.mk (hb); replace HR453 := Aside0.mk ((show Kd.C k26 w211 A210 y450.length y450 from by rw [Ny450.out, KA210.out]; exact Kd.C_drop (m := 1) (c := co195) ((Kd.R_reads' (Kd.R_after (ok := (fun k_ => some k_ ≠ (.slice (some ad431) t410.length co194 : Value).ownBlock ∧ some k_ ≠ (v419 : Value).ownBlock ∧ some k_ ≠ (.slice Ao209 y444.length co209 : Value).ownBlock ∧ k_ ≠ gb389 ∧ k_ ≠ gb392 ∧ k_ ≠ gb395 ∧ k_ ≠ gb401 ∧ k_ ≠ gb405 ∧ k_ ≠ gb409 ∧ k_ ≠ gb436)) (qR HO_22.out) hg hat)).2.2) KL210.out ((Kd.R_reads' (Kd.R_after (ok := (fun k_ => some k_ ≠ (.slice (some ad431) t410.length co194 : Value).ownBlock ∧ some k_ ≠ (v419 : Value).ownBlock ∧ some k_ ≠ (.slice Ao209 y444.length co209 : Value).ownBlock ∧ k_ ≠ gb389 ∧ k_ ≠ gb392 ∧ k_ ≠ gb395 ∧ k_ ≠ gb401 ∧ k_ ≠ gb405 ∧ k_ ≠ gb409 ∧ k_ ≠ gb436)) (qR HO_22.out) hg hat)).2.1))); replace HO_22 := Aside0.mk (Kd.R_after (ok := (fun k_ => some k_ ≠ (.slice (some ad431) t410.length co194 : Value).ownBlock ∧ some k_ ≠ (v419 : Value).ownBlock ∧ some k_ ≠ (.slice Ao209 y444.length co209 : Value).ownBlock ∧ k_ ≠ gb389 ∧ k_ ≠ gb392 ∧ k_ ≠ gb395 ∧ k_ ≠ gb401 ∧ k_ ≠ gb405 ∧ k_ ≠ gb409 ∧ k_ ≠ gb436)) (qR HO_22.out) hg hat); have HO456 := Aside0.mk (ho); clear HO449; clear ho hb hg hat; obtain ⟨Ao212, co212, eo212⟩ := Kd.R_slice HO_24.out; subst eo212; obtain ⟨Ao213, co213, eo213⟩ := Kd.R_slice HO456.out; subst eo213) | (go_at_call 20; (with_reducible refine (partitaref05_Ratios.calls kj161 _ _ t418 _ _ y454 t457 _ ?side1 ?side2 ?side3 ?side4 A192.out).mono ?_); (case side1 => repeat (first | exact (Kd.R_reads' HO_24.out).2.2 | (with_reducible refine Kd.C_alloc ?_ _) | (with_reducible refine Kd.C_drewN ?_ _) | (with_reducible refine Kd.C_drew ?_))); (case side2 => exact (Kd.R_reads' HO_24.out).2.1); (case side3 => repeat (first | exact (Kd.R_reads' HO456.out).2.2 | (with_reducible refine Kd.C_alloc ?_ _) | (with_reducible refine Kd.C_drewN ?_ _) | (with_reducible refine Kd.C_drew ?_))); (case side4 => exact (Kd.R_reads' HO456.out).2.1); rintro e w' ⟨rfl, ⟨nd, rfl⟩⟩))
                                   go_ret
                                   exact ⟨by first | rfl | (simp [errW_none, errW_some] <;> rfl) | (simp only [← hji179]; first | rfl | (simp [errW_none, errW_some] <;> rfl)) | (simp [*, errW_none, errW_some] <;> rfl), by exact qW HB.out⟩
                                 · rw [if_neg c191] at H
                                   exact absurd H (by simp)
                               · rw [if_neg c190] at H
                                 exact absurd H (by simp)
                             · rw [if_neg c189] at H
                               cases H
                           · replace c188 := Bool.eq_false_iff.mpr c188
                             subst c188
                             have H1 : none = some r := by rw [if_neg (show ¬ (false = true) by decide)] at H; exact H
                             cases H1
                         · rw [if_neg c187] at H
                           exact absurd H (by simp)
                       · rw [if_neg c186] at H
                         exact absurd H (by simp)
                     · rw [if_neg c185] at H
                       exact absurd H (by simp)
                   · rw [if_neg c182] at H
                     exact absurd H (by simp)
                 · rw [if_neg c181] at H
                   exact absurd H (by simp)
               · rw [if_neg c180] at H
                 exact absurd H (by simp)

end Go.Proofs.Ytbncdlnnjhadgaa.Q
