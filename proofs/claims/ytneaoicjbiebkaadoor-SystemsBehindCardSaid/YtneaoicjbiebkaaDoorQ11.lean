-- Written by a program of this session (myprint.py), function by function.
import Derived.Test.YtneaoicjbiebkaaDoorQ0
import Derived.Test.YtneaoicjbiebkaaDoorQ3
import Derived.Test.YtneaoicjbiebkaaDoorQ4
import Derived.Test.YtneaoicjbiebkaaDoorFew
namespace Go.Proofs.YtneaoicjbiebkaaDoor.Q
open Go.RowKit Go.Proofs.YtneaoicjbiebkaaDoorW.PrintWords Go.Proofs.YtneaoicjbiebkaaDoorW.PrintLast Go.Proofs.YtneaoicjbiebkaaDoorW.PrintMore
attribute [local go_sem] max2_int min2_int max_two min_two max_three min_three max_four min_four   -- for this text's walks alone
set_option linter.unusedVariables false
set_option linter.unusedSimpArgs false

/-! ### partitalaw25_SystemsBehind: function 6 -/
mutual
def partitalaw25_SystemsBehind.j0 : Nat → List Int → List Int → Int → Bool → List (S38) → Int → Bool → Option (Bool)
 | 0, _, _, _, _, _, _, _ => none
 | k + 1, x0, x1, x2, x7, x8, x9, x32 => if x32 = true then (if x7 = true then (if x9 = 0 then (some ((x0.length : Int) == 0)) else (some true)) else none) else (if 0 < (x8.length : Int) then (if ((rd_T38 x8 0).f1) < 1 then (partitalaw25_SystemsBehind.j1 k x0 x1 x2 x7 x8 ((rd_T38 x8 0).f1) true) else (if ((rd_T38 x8 0).f1) > (x0.length : Int) then (partitalaw25_SystemsBehind.j1 k x0 x1 x2 x7 x8 ((rd_T38 x8 0).f1) true) else (partitalaw25_SystemsBehind.j1 k x0 x1 x2 x7 x8 ((rd_T38 x8 0).f1) ((x1.length : Int) != (x0.length : Int))))) else (none))
def partitalaw25_SystemsBehind.j1 : Nat → List Int → List Int → Int → Bool → List (S38) → Int → Bool → Option (Bool)
 | 0, _, _, _, _, _, _, _ => none
 | k + 1, x0, x1, x2, x7, x8, x10, x61 => if x61 = true then none else (if 0 ≤ x10 then (if x10 ≤ (x0.length : Int) then (if x10 ≤ (x1.length : Int) then ((systems_Break.f (x0.drop (x10 : Int).toNat) (x1.drop (x10 : Int).toNat) x2).bind fun bt291 => (if bt291.2 = 0 then (partitalaw25_SystemsBehind.j2 k x7 x8 x10 bt291.1 ((bt291.1.length : Int) != (wrap64 ((x8.length : Int) - 1)))) else (partitalaw25_SystemsBehind.j2 k x7 x8 x10 bt291.1 true))) else (none)) else (none)) else (none))
def partitalaw25_SystemsBehind.j2 : Nat → Bool → List (S38) → Int → List (S38) → Bool → Option (Bool)
 | 0, _, _, _, _, _ => none
 | k + 1, x7, x8, x10, x11, x82 => if x82 = true then none else (partitalaw25_SystemsBehind.l0 k x7 x8 x10 x11 0)
def partitalaw25_SystemsBehind.l0 : Nat → Bool → List (S38) → Int → List (S38) → Int → Option (Bool)
 | 0, _, _, _, _, _ => none
 | k + 1, x7, x8, x10, x11, x13 => if x13 < (x11.length : Int) then (if 0 ≤ x13 then (if 0 ≤ (wrap64 (x13 + 1)) then (if (wrap64 (x13 + 1)) < (x8.length : Int) then (if (wrap64 (((rd_T38 x11 x13).f0) + x10)) = ((rd_T38 x8 (wrap64 (x13 + 1))).f0) then (if (wrap64 (((rd_T38 x11 x13).f1) + x10)) = ((rd_T38 x8 (wrap64 (x13 + 1))).f1) then (if ((rd_T38 x11 x13).f2) = ((rd_T38 x8 (wrap64 (x13 + 1))).f2) then (partitalaw25_SystemsBehind.l0 k x7 x8 x10 x11 (wrap64 (x13 + 1))) else none) else none) else none) else (none)) else (none)) else (none)) else (some x7)
end
def partitalaw25_SystemsBehind.f (k : Nat) (l0 : List Int) (l1 : List Int) (a2 : Int) : Option (Bool) := (partitalaw25_shown.f k).bind fun t269 => (if 0 ≤ (mn (l0.length : Int) 101) then (if (mn (l0.length : Int) 101) ≤ (l0.length : Int) then ((some (l0.take ((mn (l0.length : Int) 101) : Int).toNat : List Int)).bind fun y270 => (if 0 ≤ (mn (l1.length : Int) 101) then (if (mn (l1.length : Int) 101) ≤ (l1.length : Int) then ((some (l1.take ((mn (l1.length : Int) 101) : Int).toNat : List Int)).bind fun y274 => ((systems_Break.f y270 y274 a2).bind fun bt278 => (if bt278.2 = 0 then (partitalaw25_SystemsBehind.j0 k y270 y274 a2 t269 bt278.1 bt278.2 ((bt278.1.length : Int) == 0)) else (partitalaw25_SystemsBehind.j0 k y270 y274 a2 t269 bt278.1 bt278.2 true)))) else (none)) else (none))) else (none)) else (none))
theorem partitalaw25_SystemsBehind.mono_l : ∀ k, (∀ y0 y1 y2 y3 y4 y5 y6, LeO (partitalaw25_SystemsBehind.j0 k y0 y1 y2 y3 y4 y5 y6) (partitalaw25_SystemsBehind.j0 (k + 1) y0 y1 y2 y3 y4 y5 y6)) ∧ (∀ y0 y1 y2 y3 y4 y5 y6, LeO (partitalaw25_SystemsBehind.j1 k y0 y1 y2 y3 y4 y5 y6) (partitalaw25_SystemsBehind.j1 (k + 1) y0 y1 y2 y3 y4 y5 y6)) ∧ (∀ y0 y1 y2 y3 y4, LeO (partitalaw25_SystemsBehind.j2 k y0 y1 y2 y3 y4) (partitalaw25_SystemsBehind.j2 (k + 1) y0 y1 y2 y3 y4)) ∧ (∀ y0 y1 y2 y3 y4, LeO (partitalaw25_SystemsBehind.l0 k y0 y1 y2 y3 y4) (partitalaw25_SystemsBehind.l0 (k + 1) y0 y1 y2 y3 y4))
 | 0 => ⟨fun _ _ _ _ _ _ _ r h => by simp [partitalaw25_SystemsBehind.j0] at h, fun _ _ _ _ _ _ _ r h => by simp [partitalaw25_SystemsBehind.j1] at h, fun _ _ _ _ _ r h => by simp [partitalaw25_SystemsBehind.j2] at h, fun _ _ _ _ _ r h => by simp [partitalaw25_SystemsBehind.l0] at h⟩
 | k + 1 => by
  obtain ⟨ih0, ih1, ih2, ih3⟩ := partitalaw25_SystemsBehind.mono_l k
  refine ⟨?_, ?_, ?_, ?_⟩
  · intro y0 y1 y2 y3 y4 y5 y6
    unfold partitalaw25_SystemsBehind.j0
    repeat' first
    | (with_reducible exact ih0 _ _ _ _ _ _ _)
    | (with_reducible exact ih1 _ _ _ _ _ _ _)
    | (with_reducible exact ih2 _ _ _ _ _)
    | (with_reducible exact ih3 _ _ _ _ _)
    | (with_reducible exact partitalaw25_shown.mono _)
    | (with_reducible exact LeO.refl _)
    | (with_reducible exact LeO.none _)
    | (with_reducible refine LeO.ite ?_ ?_)
    | (with_reducible refine LeO.bind ?_ (fun _ => ?_))
    | exact ih0 _ _ _ _ _ _ _
    | exact ih1 _ _ _ _ _ _ _
    | exact ih2 _ _ _ _ _
    | exact ih3 _ _ _ _ _
    | exact partitalaw25_shown.mono _
    | exact LeO.none _
    | refine LeO.ite ?_ ?_
    | refine LeO.bind ?_ (fun _ => ?_)
  · intro y0 y1 y2 y3 y4 y5 y6
    unfold partitalaw25_SystemsBehind.j1
    repeat' first
    | (with_reducible exact ih0 _ _ _ _ _ _ _)
    | (with_reducible exact ih1 _ _ _ _ _ _ _)
    | (with_reducible exact ih2 _ _ _ _ _)
    | (with_reducible exact ih3 _ _ _ _ _)
    | (with_reducible exact partitalaw25_shown.mono _)
    | (with_reducible exact LeO.refl _)
    | (with_reducible exact LeO.none _)
    | (with_reducible refine LeO.ite ?_ ?_)
    | (with_reducible refine LeO.bind ?_ (fun _ => ?_))
    | exact ih0 _ _ _ _ _ _ _
    | exact ih1 _ _ _ _ _ _ _
    | exact ih2 _ _ _ _ _
    | exact ih3 _ _ _ _ _
    | exact partitalaw25_shown.mono _
    | exact LeO.none _
    | refine LeO.ite ?_ ?_
    | refine LeO.bind ?_ (fun _ => ?_)
  · intro y0 y1 y2 y3 y4
    unfold partitalaw25_SystemsBehind.j2
    repeat' first
    | (with_reducible exact ih0 _ _ _ _ _ _ _)
    | (with_reducible exact ih1 _ _ _ _ _ _ _)
    | (with_reducible exact ih2 _ _ _ _ _)
    | (with_reducible exact ih3 _ _ _ _ _)
    | (with_reducible exact partitalaw25_shown.mono _)
    | (with_reducible exact LeO.refl _)
    | (with_reducible exact LeO.none _)
    | (with_reducible refine LeO.ite ?_ ?_)
    | (with_reducible refine LeO.bind ?_ (fun _ => ?_))
    | exact ih0 _ _ _ _ _ _ _
    | exact ih1 _ _ _ _ _ _ _
    | exact ih2 _ _ _ _ _
    | exact ih3 _ _ _ _ _
    | exact partitalaw25_shown.mono _
    | exact LeO.none _
    | refine LeO.ite ?_ ?_
    | refine LeO.bind ?_ (fun _ => ?_)
  · intro y0 y1 y2 y3 y4
    unfold partitalaw25_SystemsBehind.l0
    repeat' first
    | (with_reducible exact ih0 _ _ _ _ _ _ _)
    | (with_reducible exact ih1 _ _ _ _ _ _ _)
    | (with_reducible exact ih2 _ _ _ _ _)
    | (with_reducible exact ih3 _ _ _ _ _)
    | (with_reducible exact partitalaw25_shown.mono _)
    | (with_reducible exact LeO.refl _)
    | (with_reducible exact LeO.none _)
    | (with_reducible refine LeO.ite ?_ ?_)
    | (with_reducible refine LeO.bind ?_ (fun _ => ?_))
    | exact ih0 _ _ _ _ _ _ _
    | exact ih1 _ _ _ _ _ _ _
    | exact ih2 _ _ _ _ _
    | exact ih3 _ _ _ _ _
    | exact partitalaw25_shown.mono _
    | exact LeO.none _
    | refine LeO.ite ?_ ?_
    | refine LeO.bind ?_ (fun _ => ?_)
theorem partitalaw25_SystemsBehind.mono : ∀ a0 a1 a2 k, LeO (partitalaw25_SystemsBehind.f k a0 a1 a2) (partitalaw25_SystemsBehind.f (k + 1) a0 a1 a2) := by
 intro a0 a1 a2 k
 obtain ⟨ih0, ih1, ih2, ih3⟩ := partitalaw25_SystemsBehind.mono_l k
 unfold partitalaw25_SystemsBehind.f
 repeat' first
  | (with_reducible exact ih0 _ _ _ _ _ _ _)
  | (with_reducible exact ih1 _ _ _ _ _ _ _)
  | (with_reducible exact ih2 _ _ _ _ _)
  | (with_reducible exact ih3 _ _ _ _ _)
  | (with_reducible exact partitalaw25_shown.mono _)
  | (with_reducible exact LeO.refl _)
  | (with_reducible exact LeO.none _)
  | (with_reducible refine LeO.ite ?_ ?_)
  | (with_reducible refine LeO.bind ?_ (fun _ => ?_))
  | exact ih0 _ _ _ _ _ _ _
  | exact ih1 _ _ _ _ _ _ _
  | exact ih2 _ _ _ _ _
  | exact ih3 _ _ _ _ _
  | exact partitalaw25_shown.mono _
  | exact LeO.none _
  | refine LeO.ite ?_ ?_
  | refine LeO.bind ?_ (fun _ => ?_)
def partitalaw25_SystemsBehind.T10 : Bool × List (List Nat × List Nat) := (true, [([], []), ([], []), ([0, 1], [0, 1]), ([], []), ([], []), ([3, 4], [3, 4]), ([], []), ([2, 5, 6], [2, 5, 6]), ([7], [7]), ([8], [8]), ([8], [8]), ([9, 7, 0, 1, 2, 3, 4, 5, 6, 7, 8, 9], [9]), ([10, 11, 0, 1, 2, 3, 4, 5, 6, 7, 8, 9, 10, 11], [10])])
def partitalaw25_SystemsBehind.B10 : List Nat := [0, 0, 3, 0, 0, 24, 0, 127, 255, 511, 511, 1023, 4095]
theorem partitalaw25_SystemsBehind.tab10 : rtab .any (opsOf Tryd.f6 10) = partitalaw25_SystemsBehind.T10 := by kernel_rfl
theorem partitalaw25_SystemsBehind.bits10 : waitsOk partitalaw25_SystemsBehind.T10.2 partitalaw25_SystemsBehind.B10 = true := by kernel_rfl
def partitalaw25_SystemsBehind.T16 : Bool × List (List Nat × List Nat) := (true, [([], []), ([], []), ([0, 1], [0, 1]), ([2], [2]), ([3], [3]), ([], []), ([4, 5], [4, 5]), ([], []), ([], []), ([8], [8]), ([7, 9], [7, 9]), ([10], [10]), ([11], [11]), ([6, 12], [6, 12]), ([13], [13]), ([14], [14]), ([14], [14]), ([15, 16, 14], [14, 15, 16]), ([17, 14], [14, 17]), ([18, 14], [14, 18]), ([14], [14]), ([19, 20, 14], [14, 19, 20]), ([14], [14]), ([14], [14]), ([23, 14], [14, 23]), ([22, 24, 14], [14, 22, 24]), ([25, 14], [14, 25]), ([26, 14], [14, 26]), ([21, 27, 14], [14, 21, 27]), ([14, 28], [14, 28]), ([29, 14], [29]), ([30], [30]), ([30], [30]), ([31, 32, 30], [30, 31, 32]), ([33, 30], [30, 33]), ([34, 30], [30, 34]), ([30], [30]), ([30], [30]), ([37, 30], [30, 37]), ([36, 38, 30], [30, 36, 38]), ([39, 30], [30, 39]), ([40, 30], [30, 40]), ([35, 41, 30], [30, 35, 41]), ([30, 42], [30, 42])])
def partitalaw25_SystemsBehind.B16 : List Nat := [0, 0, 3, 7, 15, 0, 63, 0, 0, 256, 896, 1920, 3968, 8191, 16383, 32767, 32767, 131071, 262143, 524287, 32767, 2097151, 32767, 32767, 8421375, 29392895, 62947327, 130056191, 268435455, 536870911, 1073741823, 2147483647, 2147483647, 8589934591, 17179869183, 34359738367, 2147483647, 2147483647, 139586437119, 483183820799, 1032939634687, 2132451262463, 4398046511103, 8796093022207]
theorem partitalaw25_SystemsBehind.tab16 : rtab .any (opsOf Tryd.f6 16) = partitalaw25_SystemsBehind.T16 := by kernel_rfl
theorem partitalaw25_SystemsBehind.bits16 : waitsOk partitalaw25_SystemsBehind.T16.2 partitalaw25_SystemsBehind.B16 = true := by kernel_rfl
set_option maxHeartbeats 8000000 in
set_option maxRecDepth 100000 in
theorem partitalaw25_SystemsBehind.calls (k : Nat) (A0 : Option Addr) (c0 : Nat) (l0 : List Int) (A1 : Option Addr) (c1 : Nat) (l1 : List Int) (a2 : Int) (r : Bool) (w : World) (hr0 : Kd.C (Kd.int .i64) w A0 l0.length l0) (hc0 : l0.length ≤ c0) (hr1 : Kd.C (Kd.int .i64) w A1 l1.length l1) (hc1 : l1.length ≤ c1) (h : partitalaw25_SystemsBehind.f k l0 l1 a2 = some r) (SENTS : Aside0 (SentsE w) := by exact sents_step (by assumption) (by repeat (first | (with_reducible first | exact (by assumption : Aside0 (Below _ _ _)).out | apply below_alloc | apply pw_below_drewN | apply below_drew1)))) :
 Calls Tryd.prog 6 #[.slice A0 l0.length c0, .slice A1 l1.length c1, .int .i64 a2] w fun e w' => e = .returned (.bool r) ∧ Below w.heap.size w w' := by
 have HR0 := Aside0.mk hr0
 have HC0 := Aside0.mk hc0
 clear hr0 hc0
 have HR1 := Aside0.mk hr1
 have HC1 := Aside0.mk hc1
 clear hr1 hc1
 have HB := Aside0.mk (Below.refl w.heap.size w)
 have H : ((partitalaw25_shown.f k).bind fun t269 => (if 0 ≤ (mn (l0.length : Int) 101) then (if (mn (l0.length : Int) 101) ≤ (l0.length : Int) then ((some (l0.take ((mn (l0.length : Int) 101) : Int).toNat : List Int)).bind fun y270 => (if 0 ≤ (mn (l1.length : Int) 101) then (if (mn (l1.length : Int) 101) ≤ (l1.length : Int) then ((some (l1.take ((mn (l1.length : Int) 101) : Int).toNat : List Int)).bind fun y274 => ((systems_Break.f y270 y274 a2).bind fun bt278 => (if bt278.2 = 0 then (partitalaw25_SystemsBehind.j0 k y270 y274 a2 t269 bt278.1 bt278.2 ((bt278.1.length : Int) == 0)) else (partitalaw25_SystemsBehind.j0 k y270 y274 a2 t269 bt278.1 bt278.2 true)))) else (none)) else (none))) else (none)) else (none))) = some r := h
 clear h
 replace H := Option.bind_eq_some_iff.mp H
 obtain ⟨t269, A40, H⟩ := H
 replace H : (if 0 ≤ (mn (l0.length : Int) 101) then (if (mn (l0.length : Int) 101) ≤ (l0.length : Int) then ((some (l0.take ((mn (l0.length : Int) 101) : Int).toNat : List Int)).bind fun y270 => (if 0 ≤ (mn (l1.length : Int) 101) then (if (mn (l1.length : Int) 101) ≤ (l1.length : Int) then ((some (l1.take ((mn (l1.length : Int) 101) : Int).toNat : List Int)).bind fun y274 => ((systems_Break.f y270 y274 a2).bind fun bt278 => (if bt278.2 = 0 then (partitalaw25_SystemsBehind.j0 k y270 y274 a2 t269 bt278.1 bt278.2 ((bt278.1.length : Int) == 0)) else (partitalaw25_SystemsBehind.j0 k y270 y274 a2 t269 bt278.1 bt278.2 true)))) else (none)) else (none))) else (none)) else (none)) = some r := H
 have A4 := Aside0.mk A40
 clear A40
 obtain ⟨ji5, hji5⟩ : ∃ j_ : Int, (mn (l0.length : Int) 101) = j_ := ⟨_, rfl⟩
 replace H : (if 0 ≤ (ji5) then (if (ji5) ≤ (l0.length : Int) then ((some (l0.take ((ji5) : Int).toNat : List Int)).bind fun y270 => (if 0 ≤ (mn (l1.length : Int) 101) then (if (mn (l1.length : Int) 101) ≤ (l1.length : Int) then ((some (l1.take ((mn (l1.length : Int) 101) : Int).toNat : List Int)).bind fun y274 => ((systems_Break.f y270 y274 a2).bind fun bt278 => (if bt278.2 = 0 then (partitalaw25_SystemsBehind.j0 k y270 y274 a2 t269 bt278.1 bt278.2 ((bt278.1.length : Int) == 0)) else (partitalaw25_SystemsBehind.j0 k y270 y274 a2 t269 bt278.1 bt278.2 true)))) else (none)) else (none))) else (none)) else (none)) = some r := by first | (rw [hji5] at H; exact H) | (simp only [hji5] at H ⊢; exact H)
 (try rw [hji5] at A4)
 (try (have hji5h : ji5 ≤ 101 := by (rw [← hji5]; unfold mn; (repeat' split) <;> omega)))
 (try (have hji5g : ji5 ≤ 64 := by omega))
 (try (have hji5l : 0 ≤ ji5 := by (rw [← hji5]; unfold mn; (repeat' split) <;> omega)))
 (try (have hji5m : 0 ≤ ji5 := by omega))
 have hji5_ : (if 101 < (l0.length : Int) then 101 else (l0.length : Int)) = ji5 := hji5
 by_cases c6 : 0 ≤ (ji5)
 · rw [if_pos c6] at H
   have c6b0 := eq_true c6
   have c6b1 : decide (0 ≤ (ji5)) = true := decide_eq_true c6
   clear c6
   by_cases c7 : (ji5) ≤ (l0.length : Int)
   · rw [if_pos c7] at H
     have c7b0 := eq_true c7
     have c7b1 : decide ((ji5) ≤ (l0.length : Int)) = true := decide_eq_true c7
     clear c7
     obtain ⟨y270, hy270⟩ : ∃ y_ : List Int, y_ = (l0.take ((ji5) : Int).toNat) := ⟨_, rfl⟩
     replace H : (if 0 ≤ (mn (l1.length : Int) 101) then (if (mn (l1.length : Int) 101) ≤ (l1.length : Int) then ((some (l1.take ((mn (l1.length : Int) 101) : Int).toNat : List Int)).bind fun y274 => ((systems_Break.f y270 y274 a2).bind fun bt278 => (if bt278.2 = 0 then (partitalaw25_SystemsBehind.j0 k y270 y274 a2 t269 bt278.1 bt278.2 ((bt278.1.length : Int) == 0)) else (partitalaw25_SystemsBehind.j0 k y270 y274 a2 t269 bt278.1 bt278.2 true)))) else (none)) else (none)) = some r := by first | (rw [hy270]; with_reducible exact H) | (have H2_ := (Option.bind_some _ _).symm.trans H; rw [hy270]; with_reducible exact H2_) | (have H2_ := (Option.bind_some _ _).symm.trans H; with_reducible exact H2_) | with_reducible exact H | (rw [hy270]; exact H) | exact H
     have Ny270 := Aside0.mk hy270
     clear hy270
     obtain ⟨ji8, hji8⟩ : ∃ j_ : Int, (mn (l1.length : Int) 101) = j_ := ⟨_, rfl⟩
     replace H : (if 0 ≤ (ji8) then (if (ji8) ≤ (l1.length : Int) then ((some (l1.take ((ji8) : Int).toNat : List Int)).bind fun y274 => ((systems_Break.f y270 y274 a2).bind fun bt278 => (if bt278.2 = 0 then (partitalaw25_SystemsBehind.j0 k y270 y274 a2 t269 bt278.1 bt278.2 ((bt278.1.length : Int) == 0)) else (partitalaw25_SystemsBehind.j0 k y270 y274 a2 t269 bt278.1 bt278.2 true)))) else (none)) else (none)) = some r := by first | (rw [hji8] at H; exact H) | (simp only [hji8] at H ⊢; exact H)
     (try rw [hji8] at A4)
     (try (have hji8h : ji8 ≤ 101 := by (rw [← hji8]; unfold mn; (repeat' split) <;> omega)))
     (try (have hji8g : ji8 ≤ 64 := by omega))
     (try (have hji8l : 0 ≤ ji8 := by (rw [← hji8]; unfold mn; (repeat' split) <;> omega)))
     (try (have hji8m : 0 ≤ ji8 := by omega))
     have hji8_ : (if 101 < (l1.length : Int) then 101 else (l1.length : Int)) = ji8 := hji8
     by_cases c9 : 0 ≤ (ji8)
     · rw [if_pos c9] at H
       have c9b0 := eq_true c9
       have c9b1 : decide (0 ≤ (ji8)) = true := decide_eq_true c9
       clear c9
       by_cases c10 : (ji8) ≤ (l1.length : Int)
       · rw [if_pos c10] at H
         have c10b0 := eq_true c10
         have c10b1 : decide ((ji8) ≤ (l1.length : Int)) = true := decide_eq_true c10
         clear c10
         obtain ⟨y274, hy274⟩ : ∃ y_ : List Int, y_ = (l1.take ((ji8) : Int).toNat) := ⟨_, rfl⟩
         replace H : ((systems_Break.f y270 y274 a2).bind fun bt278 => (if bt278.2 = 0 then (partitalaw25_SystemsBehind.j0 k y270 y274 a2 t269 bt278.1 bt278.2 ((bt278.1.length : Int) == 0)) else (partitalaw25_SystemsBehind.j0 k y270 y274 a2 t269 bt278.1 bt278.2 true))) = some r := by first | (rw [hy274]; with_reducible exact H) | (have H2_ := (Option.bind_some _ _).symm.trans H; rw [hy274]; with_reducible exact H2_) | (have H2_ := (Option.bind_some _ _).symm.trans H; with_reducible exact H2_) | with_reducible exact H | (rw [hy274]; exact H) | exact H
         have Ny274 := Aside0.mk hy274
         clear hy274
         replace H := Option.bind_eq_some_iff.mp H
         obtain ⟨⟨t278, t279⟩, A110, H⟩ := H
         replace H : (if t279 = 0 then (partitalaw25_SystemsBehind.j0 k y270 y274 a2 t269 t278 t279 ((t278.length : Int) == 0)) else (partitalaw25_SystemsBehind.j0 k y270 y274 a2 t269 t278 t279 true)) = some r := H
         have A11 := Aside0.mk A110
         clear A110
         have HC12 := Aside0.mk H
         clear H
         go_enter Tryd.func6, Tryd.ntmps6
         go_upto_region 5 with (first | (go_at_call 11; (with_reducible refine (Few_cut _ _ _ _ _ _ (by assumption) (by assumption) (by first | exact HC0.out | exact HC1.out)).mono ?_); rintro e w' ⟨rfl, rfl⟩) | ((with_reducible refine gate_callee (f := 10) rfl ?_); refine goesL_ (some 14) rfl rfl Tryd.func10 (by kernel_rfl) rfl #[] rfl (by (try simp only [List.map_toArray, List.map_cons, List.map_nil]); first | done | rfl | (simp only [List.length_drop, List.length_take]; rfl)) ?_; (with_reducible refine (partitalaw25_shown.calls k  t269 _ A4.out).mono ?_); rintro e w13 ⟨rfl, hb⟩; refine ⟨_, rfl, ?_⟩; have n0_ := Aside0.mk (below_step (by repeat (first | (with_reducible first | exact HB.out | apply below_alloc | apply pw_below_drewN | apply below_drew1) | exact HB.out)) hb); clear HB; have HB := n0_; clear n0_; (try clear hb); (try clear hb2); (try clear hk); (try clear hi); have q14 : ((ji5) : Int) ≤ ((l0.length : Int) : Int) := of_decide_eq_true (by first | (with_reducible assumption) | assumption); obtain ⟨i014, hi014, _, hsz14, _⟩ := info_parts info3; have hroom14 : l0.length ≤ c0 := HC0.out; have hC14 : Kd.C (Kd.int .i64) _ A0 l0.length l0 := HR0.out; have hcut14 := cut_to (P := Tryd.prog) 22 3 .i64 Tryd.underlying22 hi014 A0 l0.length c0 (ji5) (of_decide_eq_true (by first | (with_reducible assumption) | assumption)) q14 hroom14; have hr14 := Kd.C_take (m := ((ji5) : Int).toNat) hC14 (by omega); have hy14 : y270.length = ((ji5) : Int).toNat := (by rw [Ny270.out, List.length_take]; omega); rw [← Ny270.out] at hr14; rw [← hy14] at hcut14; have HR273 := Aside0.mk hr14; have HC273 := Aside0.mk (show y270.length ≤ c0 from by omega); clear hr14 hC14 hroom14 hi014 hsz14; have KY14 := Aside0.mk hy14; clear hy14; replace q14 := eq_true q14; have q15 : ((ji8) : Int) ≤ ((l1.length : Int) : Int) := of_decide_eq_true (by first | (with_reducible assumption) | assumption); obtain ⟨i015, hi015, _, hsz15, _⟩ := info_parts info3; have hroom15 : l1.length ≤ c1 := HC1.out; have hC15 : Kd.C (Kd.int .i64) _ A1 l1.length l1 := HR1.out; have hcut15 := cut_to (P := Tryd.prog) 22 3 .i64 Tryd.underlying22 hi015 A1 l1.length c1 (ji8) (of_decide_eq_true (by first | (with_reducible assumption) | assumption)) q15 hroom15; have hr15 := Kd.C_take (m := ((ji8) : Int).toNat) hC15 (by omega); have hy15 : y274.length = ((ji8) : Int).toNat := (by rw [Ny274.out, List.length_take]; omega); rw [← Ny274.out] at hr15; rw [← hy15] at hcut15; have HR277 := Aside0.mk hr15; have HC277 := Aside0.mk (show y274.length ≤ c1 from by omega); clear hr15 hC15 hroom15 hi015 hsz15; have KY15 := Aside0.mk hy15; clear hy15; replace q15 := eq_true q15) | ((with_reducible refine gate_callee (f := 14) rfl ?_); refine goesL_ (some 23) rfl rfl Tryd.func14 (by kernel_rfl) rfl #[.slice A0 y270.length c0, .slice A1 y274.length c1, .int .i64 a2] rfl (by (try simp only [List.map_toArray, List.map_cons, List.map_nil]); first | done | rfl | (simp only [List.length_drop, List.length_take]; rfl)) ?_; (with_reducible refine (systems_Break.calls _ _ y270 _ _ y274 a2 t278 t279 _ ?side1 ?side2 ?side3 ?side4 A11.out).mono ?_); (case side1 => repeat (first | exact (Kd.C_below HR273.out HB.out) | (with_reducible refine Kd.C_alloc ?_ _) | (with_reducible refine Kd.C_drewN ?_ _) | (with_reducible refine Kd.C_drew ?_))); (case side2 => exact HC273.out); (case side3 => repeat (first | exact (Kd.C_below HR277.out HB.out) | (with_reducible refine Kd.C_alloc ?_ _) | (with_reducible refine Kd.C_drewN ?_ _) | (with_reducible refine Kd.C_drew ?_))); (case side4 => exact HC277.out); rintro e w16 ⟨v280, rfl, ho0, hb⟩; refine ⟨_, rfl, ?_⟩; have n0_ := Aside0.mk (Kd.R_lower ho0 (below_size (by repeat (first | (with_reducible first | exact HB.out | apply below_alloc | apply pw_below_drewN | apply below_drew1) | exact HB.out)))); have n1_ := Aside0.mk (below_step (by repeat (first | (with_reducible first | exact HB.out | apply below_alloc | apply pw_below_drewN | apply below_drew1) | exact HB.out)) hb); clear HB; have HO281 := n0_; have HB := n1_; clear n0_ n1_; (try clear hb); (try clear hb2); (try clear hk); (try clear hi); (try clear ho0)))
         (try simp only [Act.put, qa_, qz_, qs_])
         go_cut [32] (fun v32 wc => ∃ (kq : Nat) (x32_11 : Bool), v32 = .bool x32_11 ∧ Aside0 (partitalaw25_SystemsBehind.j0 kq y270 y274 a2 t269 t278 t279 x32_11 = some r) ∧ Aside0 (kq ≤ k) ∧ Aside0 (Kd.R k38 38 wc w.heap.size (fun _ => True) v280 t278) ∧ Aside0 (Below w.heap.size w wc))
         case first =>
          have H := HC12.out
          clear HC12
          by_cases c17 : t279 = 0
          · rw [if_pos c17] at H
            have c17b0 : (t279 == 0) = true := beq_iff_eq.mpr c17
            have c17b1 : (t279 != 0) = false := bne_eq_false_iff_eq.mpr c17
            clear c17
            (first | rw [c17b0] | (simp only [i64_w, i32_w]; rw [c17b0]) | skip)
            have H' := Aside0.mk H
            clear H
            obtain ⟨Ao18, co18, eo18⟩ := Kd.R_slice HO281.out
            subst eo18
            go_wp2
            go_meet
            case rel => exact ⟨_, (((t278.length : Int) == 0)), (by first | rfl | (simp; done) | (simp [*]; done) | (simp [wrap64]; done)), H', ⟨by first | omega | exact Nat.le_refl _⟩, ⟨by (with_reducible repeat (first | apply Kd.R_alloc | apply Kd.R_drewN | apply Kd.R_drew)); exact HO281.out⟩, ⟨by repeat (first | (with_reducible first | exact HB.out | apply below_alloc | apply pw_below_drewN | apply below_drew1) | exact HB.out)⟩⟩
          · rw [if_neg c17] at H
            have c17b0 : (t279 == 0) = false := beq_eq_false_iff_ne.mpr c17
            have c17b1 : (t279 != 0) = true := bne_iff_ne.mpr c17
            (first | rw [c17b0] | (simp only [i64_w, i32_w]; rw [c17b0]) | skip)
            have H' := Aside0.mk H
            clear H
            go_wp2
            go_meet
            case rel => exact ⟨_, (true), (by first | rfl | (simp; done) | (simp [*]; done) | (simp [wrap64]; done)), H', ⟨by first | omega | exact Nat.le_refl _⟩, ⟨by (with_reducible repeat (first | apply Kd.R_alloc | apply Kd.R_drewN | apply Kd.R_drew)); exact HO281.out⟩, ⟨by repeat (first | (with_reducible first | exact HB.out | apply below_alloc | apply pw_below_drewN | apply below_drew1) | exact HB.out)⟩⟩
         case rest =>
          clear HC12
          try clear c1
          try clear q1
          try clear p2
          try clear c6
          try clear c6b0
          try clear c6b1
          try clear c7
          try clear c7b0
          try clear c7b1
          try clear c9
          try clear c9b0
          try clear c9b1
          try clear c10
          try clear c10b0
          try clear c10b1
          try clear c14
          try clear q14
          try clear q15
          try clear c17
          try clear c17b0
          try clear c17b1
          try clear q14
          try clear q15
          obtain ⟨kq, x32_11, rfl, HA, HJ11, HO_8, HB⟩ := hcut
          cases kq with
          | zero => exact absurd HA.out (by simp [partitalaw25_SystemsBehind.j0])
          | succ kj11 =>
           have H := HA.out
           clear HA
           simp only [partitalaw25_SystemsBehind.j0] at H
           by_cases c19 : x32_11 = true
           · subst c19
             have H1 : (if t269 = true then (if t279 = 0 then (some ((y270.length : Int) == 0)) else (some true)) else none) = some r := by rw [if_pos rfl] at H; exact H
             clear H
             have H := H1
             clear H1
             by_cases c20 : t269 = true
             · subst c20
               have H1 : (if t279 = 0 then (some ((y270.length : Int) == 0)) else (some true)) = some r := by rw [if_pos rfl] at H; exact H
               clear H
               have H := H1
               clear H1
               by_cases c21 : t279 = 0
               · rw [if_pos c21] at H
                 have c21b0 : (t279 == 0) = true := beq_iff_eq.mpr c21
                 have c21b1 : (t279 != 0) = false := bne_eq_false_iff_eq.mpr c21
                 clear c21
                 obtain rfl := Option.some.inj H
                 go_wp2
                 go_ret
                 exact ⟨by first | rfl | (simp [errW_none, errW_some] <;> rfl) | (simp only [← hji5, ← hji8]; first | rfl | (simp [errW_none, errW_some] <;> rfl)) | (simp [*, errW_none, errW_some] <;> rfl), by repeat (first | (with_reducible first | exact HB.out | apply below_alloc | apply pw_below_drewN | apply below_drew1) | exact HB.out)⟩
               · rw [if_neg c21] at H
                 have c21b0 : (t279 == 0) = false := beq_eq_false_iff_ne.mpr c21
                 have c21b1 : (t279 != 0) = true := bne_iff_ne.mpr c21
                 obtain rfl := Option.some.inj H
                 go_wp2
                 go_ret
                 exact ⟨by first | rfl | (simp [errW_none, errW_some] <;> rfl) | (simp only [← hji5, ← hji8]; first | rfl | (simp [errW_none, errW_some] <;> rfl)) | (simp [*, errW_none, errW_some] <;> rfl), by repeat (first | (with_reducible first | exact HB.out | apply below_alloc | apply pw_below_drewN | apply below_drew1) | exact HB.out)⟩
             · replace c20 := Bool.eq_false_iff.mpr c20
               subst c20
               have H1 : none = some r := by rw [if_neg (show ¬ (false = true) by decide)] at H; exact H
               cases H1
           · replace c19 := Bool.eq_false_iff.mpr c19
             subst c19
             have H1 : (if 0 < (t278.length : Int) then (if ((rd_T38 t278 0).f1) < 1 then (partitalaw25_SystemsBehind.j1 kj11 y270 y274 a2 t269 t278 ((rd_T38 t278 0).f1) true) else (if ((rd_T38 t278 0).f1) > (y270.length : Int) then (partitalaw25_SystemsBehind.j1 kj11 y270 y274 a2 t269 t278 ((rd_T38 t278 0).f1) true) else (partitalaw25_SystemsBehind.j1 kj11 y270 y274 a2 t269 t278 ((rd_T38 t278 0).f1) ((y274.length : Int) != (y270.length : Int))))) else (none)) = some r := by rw [if_neg (show ¬ (false = true) by decide)] at H; exact H
             clear H
             have H := H1
             clear H1
             by_cases c22 : 0 < (t278.length : Int)
             · rw [if_pos c22] at H
               have c22b0 : decide (0 < (t278.length : Int)) = true := decide_eq_true c22
               have c22b1 : decide (0 < t278.length) = true := decide_eq_true (by omega)
               clear c22
               have HC23 := Aside0.mk H
               clear H
               obtain ⟨Ao24, co24, eo24⟩ := Kd.R_slice HO_8.out
               subst eo24
               have p282 : 0 ≤ (0 : Int) := (by omega)
               have q282 : 0 < (t278.length : Int) := of_decide_eq_true (by first | (with_reducible assumption) | assumption)
               obtain ⟨ad282, e282, hx282_0, hx282_1, hx282_2⟩ := at_T38 (Kd.R_reads' HO_8.out).2.2 0 p282 q282
               cases e282
               have qi282 : (0 < t278.length) = True := eq_true (by omega)
               (try rw [show ((0 : Int)).toNat = 0 from rfl] at hx282_0)
               (try rw [show 0 * 3 = 0 from rfl] at hx282_0)
               (try rw [Addr.add_zero'] at hx282_0)
               (try rw [show ((0 : Int)).toNat = 0 from rfl] at hx282_1)
               (try rw [show 0 * 3 = 0 from rfl] at hx282_1)
               (try rw [Addr.add_zero'] at hx282_1)
               (try rw [show ((0 : Int)).toNat = 0 from rfl] at hx282_2)
               (try rw [show 0 * 3 = 0 from rfl] at hx282_2)
               (try rw [Addr.add_zero'] at hx282_2)
               replace p282 := eq_true p282
               replace q282 := eq_true q282
               go_upto_region 8 with (fail)
               go_cut [61] (fun v61 wc => ∃ (kq : Nat) (x61_22 : Bool), v61 = .bool x61_22 ∧ Aside0 (partitalaw25_SystemsBehind.j1 kq y270 y274 a2 t269 t278 ((rd_T38 t278 0).f1) x61_22 = some r) ∧ Aside0 (kq ≤ kj11) ∧ Aside0 (Kd.R k38 38 wc w.heap.size (fun _ => True) (.slice (some ad282) t278.length co24) t278) ∧ Aside0 (Below w.heap.size w wc))
               case first =>
                have H := HC23.out
                clear HC23
                by_cases c25 : ((rd_T38 t278 0).f1) < 1
                · rw [if_pos c25] at H
                  have c25b0 : decide (((rd_T38 t278 0).f1) < 1) = true := decide_eq_true c25
                  clear c25
                  (first | rw [c25b0] | (simp only [i64_w, i32_w]; rw [c25b0]) | skip)
                  have H' := Aside0.mk H
                  clear H
                  go_wp2
                  go_meet
                  case rel => exact ⟨_, (true), (by first | rfl | (simp; done) | (simp [*]; done) | (simp [wrap64]; done)), H', ⟨by have := HJ11.out; first | omega | exact Nat.le_refl _⟩, ⟨by (with_reducible repeat (first | apply Kd.R_alloc | apply Kd.R_drewN | apply Kd.R_drew)); exact HO_8.out⟩, ⟨by repeat (first | (with_reducible first | exact HB.out | apply below_alloc | apply pw_below_drewN | apply below_drew1) | exact HB.out)⟩⟩
                · rw [if_neg c25] at H
                  have c25b0 : decide (((rd_T38 t278 0).f1) < 1) = false := decide_eq_false c25
                  clear c25
                  (first | rw [c25b0] | (simp only [i64_w, i32_w]; rw [c25b0]) | skip)
                  by_cases c26 : ((rd_T38 t278 0).f1) > (y270.length : Int)
                  · rw [if_pos c26] at H
                    have c26b0 : decide ((y270.length : Int) < ((rd_T38 t278 0).f1)) = true := decide_eq_true c26
                    clear c26
                    have H' := Aside0.mk H
                    clear H
                    go_wp2
                    go_meet
                    case rel => exact ⟨_, (true), (by first | rfl | (simp; done) | (simp [*]; done) | (simp [wrap64]; done)), H', ⟨by have := HJ11.out; first | omega | exact Nat.le_refl _⟩, ⟨by (with_reducible repeat (first | apply Kd.R_alloc | apply Kd.R_drewN | apply Kd.R_drew)); exact HO_8.out⟩, ⟨by repeat (first | (with_reducible first | exact HB.out | apply below_alloc | apply pw_below_drewN | apply below_drew1) | exact HB.out)⟩⟩
                  · rw [if_neg c26] at H
                    have c26b0 : decide ((y270.length : Int) < ((rd_T38 t278 0).f1)) = false := decide_eq_false c26
                    clear c26
                    have H' := Aside0.mk H
                    clear H
                    go_wp2
                    go_meet
                    case rel => exact ⟨_, (((y274.length : Int) != (y270.length : Int))), (by first | rfl | (simp; done) | (simp [*]; done) | (simp [wrap64]; done)), H', ⟨by have := HJ11.out; first | omega | exact Nat.le_refl _⟩, ⟨by (with_reducible repeat (first | apply Kd.R_alloc | apply Kd.R_drewN | apply Kd.R_drew)); exact HO_8.out⟩, ⟨by repeat (first | (with_reducible first | exact HB.out | apply below_alloc | apply pw_below_drewN | apply below_drew1) | exact HB.out)⟩⟩
               case rest =>
                clear HC23
                try clear c1
                try clear q1
                try clear c2
                try clear p2
                try clear q2
                try clear hx2
                try clear qi2
                try clear c6
                try clear c6b0
                try clear c6b1
                try clear c7
                try clear c7b0
                try clear c7b1
                try clear c9
                try clear c9b0
                try clear c9b1
                try clear c10
                try clear c10b0
                try clear c10b1
                try clear c14
                try clear q14
                try clear q15
                try clear c17
                try clear c17b0
                try clear c17b1
                try clear c19
                try clear c20
                try clear c21
                try clear c21b0
                try clear c21b1
                try clear c22
                try clear c22b0
                try clear c22b1
                try clear c25
                try clear c25b0
                try clear c26
                try clear c26b0
                try clear hx282_0
                try clear hx282_1
                try clear hx282_2
                try clear p2
                try clear p282
                try clear q1
                try clear q14
                try clear q15
                try clear q282
                obtain ⟨kq, x61_22, rfl, HA, HJ22, HO_8, HB⟩ := hcut
                cases kq with
                | zero => exact absurd HA.out (by simp [partitalaw25_SystemsBehind.j1])
                | succ kj22 =>
                 have H := HA.out
                 clear HA
                 simp only [partitalaw25_SystemsBehind.j1] at H
                 by_cases c27 : x61_22 = true
                 · subst c27
                   have H1 : none = some r := by rw [if_pos rfl] at H; exact H
                   cases H1
                 · replace c27 := Bool.eq_false_iff.mpr c27
                   subst c27
                   have H1 : (if 0 ≤ ((rd_T38 t278 0).f1) then (if ((rd_T38 t278 0).f1) ≤ (y270.length : Int) then (if ((rd_T38 t278 0).f1) ≤ (y274.length : Int) then ((systems_Break.f (y270.drop (((rd_T38 t278 0).f1) : Int).toNat) (y274.drop (((rd_T38 t278 0).f1) : Int).toNat) a2).bind fun bt291 => (if bt291.2 = 0 then (partitalaw25_SystemsBehind.j2 kj22 t269 t278 ((rd_T38 t278 0).f1) bt291.1 ((bt291.1.length : Int) != (wrap64 ((t278.length : Int) - 1)))) else (partitalaw25_SystemsBehind.j2 kj22 t269 t278 ((rd_T38 t278 0).f1) bt291.1 true))) else (none)) else (none)) else (none)) = some r := by rw [if_neg (show ¬ (false = true) by decide)] at H; exact H
                   clear H
                   have H := H1
                   clear H1
                   by_cases c28 : 0 ≤ ((rd_T38 t278 0).f1)
                   · rw [if_pos c28] at H
                     have c28b0 := eq_true c28
                     have c28b1 : decide (0 ≤ ((rd_T38 t278 0).f1)) = true := decide_eq_true c28
                     clear c28
                     by_cases c29 : ((rd_T38 t278 0).f1) ≤ (y270.length : Int)
                     · rw [if_pos c29] at H
                       have c29b0 := eq_true c29
                       have c29b1 : decide (((rd_T38 t278 0).f1) ≤ (y270.length : Int)) = true := decide_eq_true c29
                       clear c29
                       obtain ⟨y283, hy283⟩ : ∃ y_ : List Int, y_ = (y270.drop (((rd_T38 t278 0).f1) : Int).toNat) := ⟨_, rfl⟩
                       replace H : (if ((rd_T38 t278 0).f1) ≤ (y274.length : Int) then ((systems_Break.f y283 (y274.drop (((rd_T38 t278 0).f1) : Int).toNat) a2).bind fun bt291 => (if bt291.2 = 0 then (partitalaw25_SystemsBehind.j2 kj22 t269 t278 ((rd_T38 t278 0).f1) bt291.1 ((bt291.1.length : Int) != (wrap64 ((t278.length : Int) - 1)))) else (partitalaw25_SystemsBehind.j2 kj22 t269 t278 ((rd_T38 t278 0).f1) bt291.1 true))) else (none)) = some r := by first | (rw [hy283]; with_reducible exact H) | (have H2_ := (Option.bind_some _ _).symm.trans H; rw [hy283]; with_reducible exact H2_) | (have H2_ := (Option.bind_some _ _).symm.trans H; with_reducible exact H2_) | with_reducible exact H | (rw [hy283]; exact H) | exact H
                       have Ny283 := Aside0.mk hy283
                       clear hy283
                       have c30b0 := eq_true (of_decide_eq_true (by first | (with_reducible assumption) | assumption) : 0 ≤ ((rd_T38 t278 0).f1))
                       by_cases c31 : ((rd_T38 t278 0).f1) ≤ (y274.length : Int)
                       · rw [if_pos c31] at H
                         have c31b0 := eq_true c31
                         have c31b1 : decide (((rd_T38 t278 0).f1) ≤ (y274.length : Int)) = true := decide_eq_true c31
                         clear c31
                         obtain ⟨y287, hy287⟩ : ∃ y_ : List Int, y_ = (y274.drop (((rd_T38 t278 0).f1) : Int).toNat) := ⟨_, rfl⟩
                         replace H : ((systems_Break.f y283 y287 a2).bind fun bt291 => (if bt291.2 = 0 then (partitalaw25_SystemsBehind.j2 kj22 t269 t278 ((rd_T38 t278 0).f1) bt291.1 ((bt291.1.length : Int) != (wrap64 ((t278.length : Int) - 1)))) else (partitalaw25_SystemsBehind.j2 kj22 t269 t278 ((rd_T38 t278 0).f1) bt291.1 true))) = some r := by first | (rw [hy287]; with_reducible exact H) | (have H2_ := (Option.bind_some _ _).symm.trans H; rw [hy287]; with_reducible exact H2_) | (have H2_ := (Option.bind_some _ _).symm.trans H; with_reducible exact H2_) | with_reducible exact H | (rw [hy287]; exact H) | exact H
                         have Ny287 := Aside0.mk hy287
                         clear hy287
                         replace H := Option.bind_eq_some_iff.mp H
                         obtain ⟨⟨t291, t292⟩, A320, H⟩ := H
                         replace H : (if t292 = 0 then (partitalaw25_SystemsBehind.j2 kj22 t269 t278 ((rd_T38 t278 0).f1) t291 ((t291.length : Int) != (wrap64 ((t278.length : Int) - 1)))) else (partitalaw25_SystemsBehind.j2 kj22 t269 t278 ((rd_T38 t278 0).f1) t291 true)) = some r := H
                         have A32 := Aside0.mk A320
                         clear A320
                         have HC33 := Aside0.mk H
                         clear H
                         try go_wp2
                         have n0_ := Aside0.mk (Kd.R_drew HO_8.out)
                         have n1_ := Aside0.mk (below_drew1 HB.out)
                         clear HO_8
                         clear HB
                         have HO_8 := n0_
                         have HB := n1_
                         clear n0_ n1_
                         have q35 : (((rd_T38 t278 0).f1) : Int) ≤ ((y270.length : Int) : Int) := of_decide_eq_true (by first | (with_reducible assumption) | assumption)
                         obtain ⟨i035, hi035, _, hsz35, _⟩ := info_parts info3
                         have hroom35 : y270.length ≤ c0 := HC273.out
                         have hC35 : Kd.C (Kd.int .i64) _ A0 y270.length y270 := HR273.out
                         have q035 : (0 : Int) ≤ (((rd_T38 t278 0).f1) : Int) := of_decide_eq_true (by first | (with_reducible assumption) | assumption)
                         have hcut35 := cut_from (P := Tryd.prog) 22 3 .i64 Tryd.underlying22 hi035 1 hsz35 A0 y270.length c0 ((rd_T38 t278 0).f1) q035 q35
                         have hr35 := Kd.C_drop (m := (((rd_T38 t278 0).f1) : Int).toNat) (c := c0) hC35 (by omega) hroom35
                         obtain ⟨A35, hA35⟩ : ∃ z_, z_ = (if c0 = (((rd_T38 t278 0).f1) : Int).toNat then A0 else (A0 : Option Addr).map (·.add ((((rd_T38 t278 0).f1) : Int).toNat * 1))) := ⟨_, rfl⟩
                         obtain ⟨c35, hc35⟩ : ∃ z_, z_ = c0 - (((rd_T38 t278 0).f1) : Int).toNat := ⟨_, rfl⟩
                         have hy35 : y283.length = y270.length - (((rd_T38 t278 0).f1) : Int).toNat := (by rw [Ny283.out, List.length_drop] <;> omega)
                         rw [show (y270).drop (((rd_T38 t278 0).f1) : Int).toNat = y283 from Ny283.out.symm] at hr35
                         replace hr35 : Kd.C (Kd.int .i64) _ A35 y283.length y283 := (by rw [hA35]; exact hr35)
                         rw [← hy35, ← hA35, ← hc35] at hcut35
                         have HR286 := Aside0.mk hr35
                         have HC286 := Aside0.mk (show y283.length ≤ c35 from by rw [hy35, hc35]; exact Nat.sub_le_sub_right hroom35 _)
                         clear hr35 hC35 hroom35 hi035 hsz35 hc35
                         have KY35 := Aside0.mk hy35
                         have KA35 := Aside0.mk hA35
                         clear hy35 hA35
                         replace q35 := eq_true q35
                         have q36 : (((rd_T38 t278 0).f1) : Int) ≤ ((y274.length : Int) : Int) := of_decide_eq_true (by first | (with_reducible assumption) | assumption)
                         obtain ⟨i036, hi036, _, hsz36, _⟩ := info_parts info3
                         have hroom36 : y274.length ≤ c1 := HC277.out
                         have hC36 : Kd.C (Kd.int .i64) _ A1 y274.length y274 := HR277.out
                         have q036 : (0 : Int) ≤ (((rd_T38 t278 0).f1) : Int) := of_decide_eq_true (by first | (with_reducible assumption) | assumption)
                         have hcut36 := cut_from (P := Tryd.prog) 22 3 .i64 Tryd.underlying22 hi036 1 hsz36 A1 y274.length c1 ((rd_T38 t278 0).f1) q036 q36
                         have hr36 := Kd.C_drop (m := (((rd_T38 t278 0).f1) : Int).toNat) (c := c1) hC36 (by omega) hroom36
                         obtain ⟨A36, hA36⟩ : ∃ z_, z_ = (if c1 = (((rd_T38 t278 0).f1) : Int).toNat then A1 else (A1 : Option Addr).map (·.add ((((rd_T38 t278 0).f1) : Int).toNat * 1))) := ⟨_, rfl⟩
                         obtain ⟨c36, hc36⟩ : ∃ z_, z_ = c1 - (((rd_T38 t278 0).f1) : Int).toNat := ⟨_, rfl⟩
                         have hy36 : y287.length = y274.length - (((rd_T38 t278 0).f1) : Int).toNat := (by rw [Ny287.out, List.length_drop] <;> omega)
                         rw [show (y274).drop (((rd_T38 t278 0).f1) : Int).toNat = y287 from Ny287.out.symm] at hr36
                         replace hr36 : Kd.C (Kd.int .i64) _ A36 y287.length y287 := (by rw [hA36]; exact hr36)
                         rw [← hy36, ← hA36, ← hc36] at hcut36
                         have HR290 := Aside0.mk hr36
                         have HC290 := Aside0.mk (show y287.length ≤ c36 from by rw [hy36, hc36]; exact Nat.sub_le_sub_right hroom36 _)
                         clear hr36 hC36 hroom36 hi036 hsz36 hc36
                         have KY36 := Aside0.mk hy36
                         have KA36 := Aside0.mk hA36
                         clear hy36 hA36
                         replace q36 := eq_true q36
                         refine start_ (n := 13) (S := fun w' => True) (ds := []) #[false, false, false, false, false, false, false, false, false, false, false, false, false] (by kernel_rfl) rfl rfl trivial (fun hHeld => ?_); refine with_tabW partitalaw25_SystemsBehind.tab10 partitalaw25_SystemsBehind.bits10 (fun HT_ HW_ => ?_)
                         generalize wc.drew = w34 at HO_8 HB HR286 HR290 hHeld ⊢
                         refine pure_ (i := 0) (N := some 63) (v := ?_) (a' := ?_) #[true, false, false, false, false, false, false, false, false, false, false, false, false] rfl rfl (any_of HT_.out (by kernel_rfl)) (fun _ _ _ h => h) (Or.inl ⟨by rfl, ?_⟩) ?_ ?_
                         rotate_left
                         · intro w'
                           go_simp
                           with_reducible rfl
                         rotate_left
                         · simp only [Act.put, qa_, qz_, qs_, i64_w, i32_w]
                           rfl
                         refine pure_ (i := 1) (N := some 64) (v := ?_) (a' := ?_) #[true, true, false, false, false, false, false, false, false, false, false, false, false] rfl rfl (any_of HT_.out (by kernel_rfl)) (fun _ _ _ h => h) (Or.inl ⟨by rfl, ?_⟩) ?_ ?_
                         rotate_left
                         · intro w'
                           go_simp
                           with_reducible rfl
                         rotate_left
                         · simp only [Act.put, qa_, qz_, qs_, i64_w, i32_w]
                           rfl
                         refine pure_ (i := 2) (N := some 65) (v := ?_) (a' := ?_) #[true, true, true, false, false, false, false, false, false, false, false, false, false] rfl rfl (any_of HT_.out (by kernel_rfl)) (fun _ _ _ h => h) (Or.inl ⟨by rfl, ?_⟩) ?_ ?_
                         rotate_left
                         · intro w'
                           go_simp
                           with_reducible rfl
                         rotate_left
                         · simp only [Act.put, qa_, qz_, qs_, i64_w, i32_w]
                           rfl
                         refine pure_ (i := 3) (N := some 66) (v := ?_) (a' := ?_) #[true, true, true, true, false, false, false, false, false, false, false, false, false] rfl rfl (any_of HT_.out (by kernel_rfl)) (fun _ _ _ h => h) (Or.inl ⟨by rfl, ?_⟩) ?_ ?_
                         rotate_left
                         · intro w'
                           go_simp
                           with_reducible rfl
                         rotate_left
                         · simp only [Act.put, qa_, qz_, qs_, i64_w, i32_w]
                           rfl
                         refine pure_ (i := 4) (N := some 67) (v := ?_) (a' := ?_) #[true, true, true, true, true, false, false, false, false, false, false, false, false] rfl rfl (any_of HT_.out (by kernel_rfl)) (fun _ _ _ h => h) (Or.inl ⟨by rfl, ?_⟩) ?_ ?_
                         rotate_left
                         · intro w'
                           go_simp
                           with_reducible rfl
                         rotate_left
                         · simp only [Act.put, qa_, qz_, qs_, i64_w, i32_w]
                           rfl
                         refine pure_ (i := 5) (N := some 68) (v := ?_) (a' := ?_) #[true, true, true, true, true, true, false, false, false, false, false, false, false] rfl rfl (any_of HT_.out (by kernel_rfl)) (fun _ _ _ h => h) (Or.inl ⟨by rfl, ?_⟩) ?_ ?_
                         rotate_left
                         · intro w'
                           go_simp
                           with_reducible rfl
                         rotate_left
                         · simp only [Act.put, qa_, qz_, qs_, i64_w, i32_w]
                           rfl
                         refine pure_ (i := 6) (N := some 69) (v := ?_) (a' := ?_) #[true, true, true, true, true, true, true, false, false, false, false, false, false] rfl rfl (any_of HT_.out (by kernel_rfl)) (fun _ _ _ h => h) (Or.inl ⟨by rfl, ?_⟩) ?_ ?_
                         rotate_left
                         · intro w'
                           go_simp
                           with_reducible rfl
                         rotate_left
                         · simp only [Act.put, qa_, qz_, qs_, i64_w, i32_w]
                           rfl
                         refine one_ (i := 7) (N := some 70) #[true, true, true, true, true, true, true, true, false, false, false, false, false] rfl rfl (one_of HT_.out (by kernel_rfl)) (by decide) (fun K hK => ?_)
                         refine goes_ Tryd.func14 (by kernel_rfl) rfl #[.slice A35 y283.length c35, .slice A36 y287.length c36, .int .i64 a2] (by rfl) rfl rfl (by (try simp only [List.map_toArray, List.map_cons, List.map_nil]); first | done | rfl | (simp only [List.length_drop, List.length_take]; rfl)) ?_
                         with_reducible refine (systems_Break.calls _ _ y283 _ _ y287 a2 t291 t292 _ ?side1 ?side2 ?side3 ?side4 A32.out).mono ?_
                         (case side1 => repeat (first | exact (Kd.C_below HR286.out HB.out) | (with_reducible refine Kd.C_alloc ?_ _) | (with_reducible refine Kd.C_drewN ?_ _) | (with_reducible refine Kd.C_drew ?_)))
                         (case side2 => exact HC286.out)
                         (case side3 => repeat (first | exact (Kd.C_below HR290.out HB.out) | (with_reducible refine Kd.C_alloc ?_ _) | (with_reducible refine Kd.C_drewN ?_ _) | (with_reducible refine Kd.C_drew ?_)))
                         (case side4 => exact HC290.out)
                         rintro e w37 ⟨v293, rfl, ho0, hb⟩
                         refine ⟨_, rfl, ?_⟩
                         have n0_ := Aside0.mk (Kd.R_elder' (qR HO_8.out) (Kd.R_base ho0) hb)
                         have n1_ := Aside0.mk (Kd.R_lower (Kd.R_new' ho0 (Kd.R_lt (qR HO_8.out))) (below_size (by repeat (first | (with_reducible first | exact HB.out | apply below_alloc | apply pw_below_drewN | apply below_drew1) | exact HB.out))))
                         have n2_ := Aside0.mk (below_step (by repeat (first | (with_reducible first | exact HB.out | apply below_alloc | apply pw_below_drewN | apply below_drew1) | exact HB.out)) hb)
                         clear HO_8
                         clear HB
                         have HO_8 := n0_
                         have HO294 := n1_
                         have HB := n2_
                         clear n0_ n1_ n2_
                         (try clear hb)
                         (try clear hb2)
                         (try clear hk)
                         (try clear hi)
                         (try clear ho0)
                         refine hK.out _ _ trivial (fun hHeld => ?_)
                         clear hK K
                         refine norm_ (a' := ?_) ?_ ?_
                         rotate_left
                         · show Act.put _ (some 70) _ = _
                           simp only [Act.put, qa_, qz_, qs_, i64_w, i32_w]
                           rfl
                         refine pure_ (i := 8) (N := some 62) (v := ?_) (a' := ?_) #[true, true, true, true, true, true, true, true, true, false, false, false, false] rfl rfl (any_of HT_.out (by kernel_rfl)) (fun _ _ _ h => h) (Or.inl ⟨by rfl, ?_⟩) ?_ ?_
                         rotate_left
                         · intro w'
                           go_simp
                           with_reducible rfl
                         rotate_left
                         · simp only [Act.put, qa_, qz_, qs_, i64_w, i32_w]
                           rfl
                         refine pure_ (i := 9) (N := some 71) (v := ?_) (a' := ?_) #[true, true, true, true, true, true, true, true, true, true, false, false, false] rfl rfl (any_of HT_.out (by kernel_rfl)) (fun _ _ _ h => h) (Or.inl ⟨by rfl, ?_⟩) ?_ ?_
                         rotate_left
                         · intro w'
                           go_simp
                           with_reducible rfl
                         rotate_left
                         · simp only [Act.put, qa_, qz_, qs_, i64_w, i32_w]
                           rfl
                         refine pure_ (i := 10) (N := some 72) (v := ?_) (a' := ?_) #[true, true, true, true, true, true, true, true, true, true, true, false, false] rfl rfl (any_of HT_.out (by kernel_rfl)) (fun _ _ _ h => h) (Or.inl ⟨by rfl, ?_⟩) ?_ ?_
                         rotate_left
                         · intro w'
                           go_simp
                           with_reducible rfl
                         rotate_left
                         · simp only [Act.put, qa_, qz_, qs_, i64_w, i32_w]
                           rfl
                         refine pure_ (i := 11) (N := some 11) (v := ?_) (a' := ?_) #[true, true, true, true, true, true, true, true, true, true, true, true, false] rfl rfl (any_of HT_.out (by kernel_rfl)) (fun _ _ _ h => h) (Or.inl ⟨by rfl, ?_⟩) ?_ ?_
                         rotate_left
                         · intro w'
                           go_simp
                           with_reducible rfl
                         rotate_left
                         · simp only [Act.put, qa_, qz_, qs_, i64_w, i32_w]
                           rfl
                         refine pure_ (i := 12) (N := some 12) (v := ?_) (a' := ?_) #[true, true, true, true, true, true, true, true, true, true, true, true, true] rfl rfl (any_of HT_.out (by kernel_rfl)) (fun _ _ _ h => h) (Or.inl ⟨by rfl, ?_⟩) ?_ ?_
                         rotate_left
                         · intro w'
                           go_simp
                           with_reducible rfl
                         rotate_left
                         · simp only [Act.put, qa_, qz_, qs_, i64_w, i32_w]
                           rfl
                         refine done_ (done_of HT_.out (by kernel_rfl)) ?_
                         go_upto_region 11 with (fail)
                         go_cut [82] (fun v82 wc => ∃ (kq : Nat) (x82_32 : Bool), v82 = .bool x82_32 ∧ Aside0 (partitalaw25_SystemsBehind.j2 kq t269 t278 ((rd_T38 t278 0).f1) t291 x82_32 = some r) ∧ Aside0 (kq ≤ kj22) ∧ Aside0 (Kd.R k38 38 wc w.heap.size (fun k_ => some k_ ≠ (v293 : Value).ownBlock) (.slice (some ad282) t278.length co24) t278) ∧ Aside0 (Kd.R k38 38 wc w.heap.size (fun k_ => some k_ ≠ ((.slice (some ad282) t278.length co24) : Value).ownBlock) v293 t291) ∧ Aside0 (Below w.heap.size w wc))
                         case first =>
                          have H := HC33.out
                          clear HC33
                          by_cases c38 : t292 = 0
                          · rw [if_pos c38] at H
                            have c38b0 : (t292 == 0) = true := beq_iff_eq.mpr c38
                            have c38b1 : (t292 != 0) = false := bne_eq_false_iff_eq.mpr c38
                            clear c38
                            (first | rw [c38b0] | (simp only [i64_w, i32_w]; rw [c38b0]) | skip)
                            have H' := Aside0.mk H
                            clear H
                            obtain ⟨Ao39, co39, eo39⟩ := Kd.R_slice HO294.out
                            subst eo39
                            go_wp2
                            go_meet
                            case rel => exact ⟨_, (((t291.length : Int) != (wrap64 ((t278.length : Int) - 1)))), (by first | rfl | (simp; done) | (simp [*]; done) | (simp [wrap64]; done)), H', ⟨by have := HJ11.out; have := HJ22.out; first | omega | exact Nat.le_refl _⟩, ⟨by (with_reducible repeat (first | apply Kd.R_alloc | apply Kd.R_drewN | apply Kd.R_drew)); exact Kd.R_mono HO_8.out (fun _ hk => hk.2)⟩, ⟨by (with_reducible repeat (first | apply Kd.R_alloc | apply Kd.R_drewN | apply Kd.R_drew)); exact Kd.R_mono HO294.out (fun _ hk => hk.2)⟩, ⟨by repeat (first | (with_reducible first | exact HB.out | apply below_alloc | apply pw_below_drewN | apply below_drew1) | exact HB.out)⟩⟩
                          · rw [if_neg c38] at H
                            have c38b0 : (t292 == 0) = false := beq_eq_false_iff_ne.mpr c38
                            have c38b1 : (t292 != 0) = true := bne_iff_ne.mpr c38
                            (first | rw [c38b0] | (simp only [i64_w, i32_w]; rw [c38b0]) | skip)
                            have H' := Aside0.mk H
                            clear H
                            go_wp2
                            go_meet
                            case rel => exact ⟨_, (true), (by first | rfl | (simp; done) | (simp [*]; done) | (simp [wrap64]; done)), H', ⟨by have := HJ11.out; have := HJ22.out; first | omega | exact Nat.le_refl _⟩, ⟨by (with_reducible repeat (first | apply Kd.R_alloc | apply Kd.R_drewN | apply Kd.R_drew)); exact Kd.R_mono HO_8.out (fun _ hk => hk.2)⟩, ⟨by (with_reducible repeat (first | apply Kd.R_alloc | apply Kd.R_drewN | apply Kd.R_drew)); exact Kd.R_mono HO294.out (fun _ hk => hk.2)⟩, ⟨by repeat (first | (with_reducible first | exact HB.out | apply below_alloc | apply pw_below_drewN | apply below_drew1) | exact HB.out)⟩⟩
                         case rest =>
                          clear HC33
                          try clear c1
                          try clear q1
                          try clear c2
                          try clear p2
                          try clear q2
                          try clear hx2
                          try clear qi2
                          try clear c3
                          try clear q3
                          try clear c6
                          try clear c6b0
                          try clear c6b1
                          try clear p6
                          try clear c7
                          try clear c7b0
                          try clear c7b1
                          try clear c9
                          try clear c9b0
                          try clear c9b1
                          try clear c10
                          try clear c10b0
                          try clear c10b1
                          try clear c14
                          try clear q14
                          try clear q15
                          try clear c17
                          try clear c17b0
                          try clear c17b1
                          try clear c19
                          try clear c20
                          try clear c21
                          try clear c21b0
                          try clear c21b1
                          try clear c22
                          try clear c22b0
                          try clear c22b1
                          try clear c25
                          try clear c25b0
                          try clear c26
                          try clear c26b0
                          try clear c27
                          try clear c28
                          try clear c28b0
                          try clear c28b1
                          try clear p28
                          try clear q28
                          try clear hx28
                          try clear qi28
                          try clear c29
                          try clear c29b0
                          try clear c29b1
                          try clear c30
                          try clear c30b0
                          try clear c31
                          try clear c31b0
                          try clear c31b1
                          try clear c35
                          try clear q35
                          try clear c36
                          try clear q36
                          try clear c38
                          try clear c38b0
                          try clear c38b1
                          try clear hx282_0
                          try clear hx282_1
                          try clear hx282_2
                          try clear p2
                          try clear p282
                          try clear q035
                          try clear q036
                          try clear q1
                          try clear q14
                          try clear q15
                          try clear q2
                          try clear q282
                          try clear q35
                          try clear q36
                          obtain ⟨kq, x82_32, rfl, HA, HJ32, HO_8, HO_11, HB⟩ := hcut
                          cases kq with
                          | zero => exact absurd HA.out (by simp [partitalaw25_SystemsBehind.j2])
                          | succ kj32 =>
                           have H := HA.out
                           clear HA
                           simp only [partitalaw25_SystemsBehind.j2] at H
                           by_cases c40 : x82_32 = true
                           · subst c40
                             have H1 : none = some r := by rw [if_pos rfl] at H; exact H
                             cases H1
                           · replace c40 := Bool.eq_false_iff.mpr c40
                             subst c40
                             have H1 : (partitalaw25_SystemsBehind.l0 kj32 t269 t278 ((rd_T38 t278 0).f1) t291 0) = some r := by rw [if_neg (show ¬ (false = true) by decide)] at H; exact H
                             clear H
                             have H := H1
                             clear H1
                             have H' := Aside0.mk H
                             clear H
                             go_wp2
                             go_loopg [13] kj32 (fun kq v13 w' => ∃ (x13_4 : Int), v13 = .int .i64 x13_4 ∧ Aside0 (partitalaw25_SystemsBehind.l0 kq t269 t278 ((rd_T38 t278 0).f1) t291 x13_4 = some r) ∧ Aside0 (kq ≤ kj32) ∧ Aside0 (Kd.R k38 38 w' w.heap.size (fun k_ => some k_ ≠ (v293 : Value).ownBlock) (.slice (some ad282) t278.length co24) t278) ∧ Aside0 (Kd.R k38 38 w' w.heap.size (fun k_ => some k_ ≠ ((.slice (some ad282) t278.length co24) : Value).ownBlock) v293 t291) ∧ Aside0 (Below w.heap.size w w'))
                             case atStart => exact ⟨(0), (by first | rfl | (simp; done) | (simp [*]; done) | (simp [wrap64]; done)), H', ⟨Nat.le_refl _⟩, ⟨by (with_reducible repeat (first | apply Kd.R_alloc | apply Kd.R_drewN | apply Kd.R_drew)); exact HO_8.out⟩, ⟨by (with_reducible repeat (first | apply Kd.R_alloc | apply Kd.R_drewN | apply Kd.R_drew)); exact HO_11.out⟩, ⟨by repeat (first | (with_reducible first | exact HB.out | apply below_alloc | apply pw_below_drewN | apply below_drew1) | exact HB.out)⟩⟩
                             case round =>
                              clear H'
                              try clear c1
                              try clear q1
                              try clear c2
                              try clear p2
                              try clear q2
                              try clear hx2
                              try clear qi2
                              try clear c3
                              try clear q3
                              try clear c4
                              try clear c6
                              try clear c6b0
                              try clear c6b1
                              try clear p6
                              try clear c7
                              try clear c7b0
                              try clear c7b1
                              try clear c9
                              try clear c9b0
                              try clear c9b1
                              try clear c10
                              try clear c10b0
                              try clear c10b1
                              try clear c14
                              try clear q14
                              try clear q15
                              try clear c17
                              try clear c17b0
                              try clear c17b1
                              try clear c19
                              try clear c20
                              try clear c21
                              try clear c21b0
                              try clear c21b1
                              try clear c22
                              try clear c22b0
                              try clear c22b1
                              try clear c25
                              try clear c25b0
                              try clear c26
                              try clear c26b0
                              try clear c27
                              try clear c28
                              try clear c28b0
                              try clear c28b1
                              try clear p28
                              try clear q28
                              try clear hx28
                              try clear qi28
                              try clear c29
                              try clear c29b0
                              try clear c29b1
                              try clear c30
                              try clear c30b0
                              try clear c31
                              try clear c31b0
                              try clear c31b1
                              try clear c35
                              try clear q35
                              try clear c36
                              try clear q36
                              try clear c38
                              try clear c38b0
                              try clear c38b1
                              try clear c40
                              try clear hx282_0
                              try clear hx282_1
                              try clear hx282_2
                              try clear p2
                              try clear p28
                              try clear p282
                              try clear p6
                              try clear q035
                              try clear q036
                              try clear q1
                              try clear q14
                              try clear q15
                              try clear q2
                              try clear q28
                              try clear q282
                              try clear q3
                              try clear q35
                              try clear q36
                              obtain ⟨x13_4, rfl, HA, HK4, HO_8, HO_11, HB⟩ := hrel
                              cases gk with
                              | zero => exact absurd HA.out (by simp [partitalaw25_SystemsBehind.l0])
                              | succ k4 =>
                               have H := HA.out
                               clear HA
                               simp only [partitalaw25_SystemsBehind.l0] at H
                               by_cases c41 : x13_4 < (t291.length : Int)
                               · rw [if_pos c41] at H
                                 have c41b0 : decide (x13_4 < (t291.length : Int)) = true := decide_eq_true c41
                                 clear c41
                                 by_cases c42 : 0 ≤ x13_4
                                 · rw [if_pos c42] at H
                                   have c42b0 : decide (0 ≤ x13_4) = true := decide_eq_true c42
                                   clear c42
                                   obtain ⟨ji43, hji43⟩ : ∃ j_ : Int, (wrap64 (x13_4 + 1)) = j_ := ⟨_, rfl⟩
                                   replace H : (if 0 ≤ (ji43) then (if (ji43) < (t278.length : Int) then (if (wrap64 (((rd_T38 t291 x13_4).f0) + ((rd_T38 t278 0).f1))) = ((rd_T38 t278 (ji43)).f0) then (if (wrap64 (((rd_T38 t291 x13_4).f1) + ((rd_T38 t278 0).f1))) = ((rd_T38 t278 (ji43)).f1) then (if ((rd_T38 t291 x13_4).f2) = ((rd_T38 t278 (ji43)).f2) then (partitalaw25_SystemsBehind.l0 k4 t269 t278 ((rd_T38 t278 0).f1) t291 ji43) else none) else none) else none) else (none)) else (none)) = some r := by first | (rw [hji43] at H; exact H) | (simp only [hji43] at H ⊢; exact H)
                                   have hji43w : (IntKind.i64.wrap (x13_4 + 1)) = ji43 := (i64_w _).trans hji43
                                   by_cases c44 : 0 ≤ (ji43)
                                   · rw [if_pos c44] at H
                                     have c44b0 : decide (0 ≤ (ji43)) = true := decide_eq_true c44
                                     clear c44
                                     by_cases c45 : (ji43) < (t278.length : Int)
                                     · rw [if_pos c45] at H
                                       have c45b0 : decide ((ji43) < (t278.length : Int)) = true := decide_eq_true c45
                                       clear c45
                                       by_cases c46 : (wrap64 (((rd_T38 t291 x13_4).f0) + ((rd_T38 t278 0).f1))) = ((rd_T38 t278 (ji43)).f0)
                                       · rw [if_pos c46] at H
                                         have c46b0 : ((wrap64 (((rd_T38 t291 x13_4).f0) + ((rd_T38 t278 0).f1))) == ((rd_T38 t278 (ji43)).f0)) = true := beq_iff_eq.mpr c46
                                         have c46b1 : ((wrap64 (((rd_T38 t291 x13_4).f0) + ((rd_T38 t278 0).f1))) != ((rd_T38 t278 (ji43)).f0)) = false := bne_eq_false_iff_eq.mpr c46
                                         clear c46
                                         by_cases c47 : (wrap64 (((rd_T38 t291 x13_4).f1) + ((rd_T38 t278 0).f1))) = ((rd_T38 t278 (ji43)).f1)
                                         · rw [if_pos c47] at H
                                           have c47b0 : ((wrap64 (((rd_T38 t291 x13_4).f1) + ((rd_T38 t278 0).f1))) == ((rd_T38 t278 (ji43)).f1)) = true := beq_iff_eq.mpr c47
                                           have c47b1 : ((wrap64 (((rd_T38 t291 x13_4).f1) + ((rd_T38 t278 0).f1))) != ((rd_T38 t278 (ji43)).f1)) = false := bne_eq_false_iff_eq.mpr c47
                                           clear c47
                                           by_cases c48 : ((rd_T38 t291 x13_4).f2) = ((rd_T38 t278 (ji43)).f2)
                                           · rw [if_pos c48] at H
                                             have c48b0 : (((rd_T38 t291 x13_4).f2) == ((rd_T38 t278 (ji43)).f2)) = true := beq_iff_eq.mpr c48
                                             have c48b1 : (((rd_T38 t291 x13_4).f2) != ((rd_T38 t278 (ji43)).f2)) = false := bne_eq_false_iff_eq.mpr c48
                                             clear c48
                                             have H' := Aside0.mk H
                                             clear H
                                             obtain ⟨Ao49, co49, eo49⟩ := Kd.R_slice HO_11.out
                                             subst eo49
                                             try go_wp2
                                             have n0_ := Aside0.mk (Kd.R_drew HO_8.out)
                                             have n1_ := Aside0.mk (Kd.R_drew HO_11.out)
                                             have n2_ := Aside0.mk (below_drew1 HB.out)
                                             clear HO_8
                                             clear HO_11
                                             clear HB
                                             have HO_8 := n0_
                                             have HO_11 := n1_
                                             have HB := n2_
                                             clear n0_ n1_ n2_
                                             have p295 : 0 ≤ (x13_4 : Int) := of_decide_eq_true (by first | (with_reducible assumption) | assumption)
                                             have q295 : x13_4 < (t291.length : Int) := of_decide_eq_true (by first | (with_reducible assumption) | assumption)
                                             obtain ⟨ad295, e295, hx295_0, hx295_1, hx295_2⟩ := at_T38 (Kd.R_reads' HO_11.out).2.2 x13_4 p295 q295
                                             cases e295
                                             replace p295 := eq_true p295
                                             replace q295 := eq_true q295
                                             have p296 : 0 ≤ ((ji43) : Int) := of_decide_eq_true (by first | (with_reducible assumption) | assumption)
                                             have q296 : (ji43) < (t278.length : Int) := of_decide_eq_true (by first | (with_reducible assumption) | assumption)
                                             obtain ⟨ad296, e296, hx296_0, hx296_1, hx296_2⟩ := at_T38 (Kd.R_reads' HO_8.out).2.2 (ji43) p296 q296
                                             obtain rfl : ad282 = ad296 := (by injection e296)
                                             replace p296 := eq_true p296
                                             replace q296 := eq_true q296
                                             have p297 : 0 ≤ (x13_4 : Int) := of_decide_eq_true (by first | (with_reducible assumption) | assumption)
                                             have q297 : x13_4 < (t291.length : Int) := of_decide_eq_true (by first | (with_reducible assumption) | assumption)
                                             obtain ⟨ad297, e297, hx297_0, hx297_1, hx297_2⟩ := at_T38 (Kd.R_reads' HO_11.out).2.2 x13_4 p297 q297
                                             obtain rfl : ad295 = ad297 := (by injection e297)
                                             replace p297 := eq_true p297
                                             replace q297 := eq_true q297
                                             have p298 : 0 ≤ ((ji43) : Int) := of_decide_eq_true (by first | (with_reducible assumption) | assumption)
                                             have q298 : (ji43) < (t278.length : Int) := of_decide_eq_true (by first | (with_reducible assumption) | assumption)
                                             obtain ⟨ad298, e298, hx298_0, hx298_1, hx298_2⟩ := at_T38 (Kd.R_reads' HO_8.out).2.2 (ji43) p298 q298
                                             obtain rfl : ad282 = ad298 := (by injection e298)
                                             replace p298 := eq_true p298
                                             replace q298 := eq_true q298
                                             have p299 : 0 ≤ (x13_4 : Int) := of_decide_eq_true (by first | (with_reducible assumption) | assumption)
                                             have q299 : x13_4 < (t291.length : Int) := of_decide_eq_true (by first | (with_reducible assumption) | assumption)
                                             obtain ⟨ad299, e299, hx299_0, hx299_1, hx299_2⟩ := at_T38 (Kd.R_reads' HO_11.out).2.2 x13_4 p299 q299
                                             obtain rfl : ad295 = ad299 := (by injection e299)
                                             replace p299 := eq_true p299
                                             replace q299 := eq_true q299
                                             have p300 : 0 ≤ ((ji43) : Int) := of_decide_eq_true (by first | (with_reducible assumption) | assumption)
                                             have q300 : (ji43) < (t278.length : Int) := of_decide_eq_true (by first | (with_reducible assumption) | assumption)
                                             obtain ⟨ad300, e300, hx300_0, hx300_1, hx300_2⟩ := at_T38 (Kd.R_reads' HO_8.out).2.2 (ji43) p300 q300
                                             obtain rfl : ad282 = ad300 := (by injection e300)
                                             replace p300 := eq_true p300
                                             replace q300 := eq_true q300
                                             refine start_ (n := 44) (S := fun w' => w'.cell? (ad295.add ((x13_4).toNat * 3)) = some (.int .i64 ((rd_T38 t291 x13_4).f0)) ∧ w'.cell? ⟨(ad295.add ((x13_4).toNat * 3)).block, (ad295.add ((x13_4).toNat * 3)).off + 1, none⟩ = some (.int .i64 ((rd_T38 t291 x13_4).f1)) ∧ w'.cell? ⟨(ad295.add ((x13_4).toNat * 3)).block, (ad295.add ((x13_4).toNat * 3)).off + 2, none⟩ = some (.int .i64 ((rd_T38 t291 x13_4).f2)) ∧ w'.cell? (ad282.add (((ji43)).toNat * 3)) = some (.int .i64 ((rd_T38 t278 (ji43)).f0)) ∧ w'.cell? ⟨(ad282.add (((ji43)).toNat * 3)).block, (ad282.add (((ji43)).toNat * 3)).off + 1, none⟩ = some (.int .i64 ((rd_T38 t278 (ji43)).f1)) ∧ w'.cell? ⟨(ad282.add (((ji43)).toNat * 3)).block, (ad282.add (((ji43)).toNat * 3)).off + 2, none⟩ = some (.int .i64 ((rd_T38 t278 (ji43)).f2)) ∧ w'.cell? (ad295.add ((x13_4).toNat * 3)) = some (.int .i64 ((rd_T38 t291 x13_4).f0)) ∧ w'.cell? ⟨(ad295.add ((x13_4).toNat * 3)).block, (ad295.add ((x13_4).toNat * 3)).off + 1, none⟩ = some (.int .i64 ((rd_T38 t291 x13_4).f1)) ∧ w'.cell? ⟨(ad295.add ((x13_4).toNat * 3)).block, (ad295.add ((x13_4).toNat * 3)).off + 2, none⟩ = some (.int .i64 ((rd_T38 t291 x13_4).f2)) ∧ w'.cell? (ad282.add (((ji43)).toNat * 3)) = some (.int .i64 ((rd_T38 t278 (ji43)).f0)) ∧ w'.cell? ⟨(ad282.add (((ji43)).toNat * 3)).block, (ad282.add (((ji43)).toNat * 3)).off + 1, none⟩ = some (.int .i64 ((rd_T38 t278 (ji43)).f1)) ∧ w'.cell? ⟨(ad282.add (((ji43)).toNat * 3)).block, (ad282.add (((ji43)).toNat * 3)).off + 2, none⟩ = some (.int .i64 ((rd_T38 t278 (ji43)).f2)) ∧ w'.cell? (ad295.add ((x13_4).toNat * 3)) = some (.int .i64 ((rd_T38 t291 x13_4).f0)) ∧ w'.cell? ⟨(ad295.add ((x13_4).toNat * 3)).block, (ad295.add ((x13_4).toNat * 3)).off + 1, none⟩ = some (.int .i64 ((rd_T38 t291 x13_4).f1)) ∧ w'.cell? ⟨(ad295.add ((x13_4).toNat * 3)).block, (ad295.add ((x13_4).toNat * 3)).off + 2, none⟩ = some (.int .i64 ((rd_T38 t291 x13_4).f2)) ∧ w'.cell? (ad282.add (((ji43)).toNat * 3)) = some (.int .i64 ((rd_T38 t278 (ji43)).f0)) ∧ w'.cell? ⟨(ad282.add (((ji43)).toNat * 3)).block, (ad282.add (((ji43)).toNat * 3)).off + 1, none⟩ = some (.int .i64 ((rd_T38 t278 (ji43)).f1)) ∧ w'.cell? ⟨(ad282.add (((ji43)).toNat * 3)).block, (ad282.add (((ji43)).toNat * 3)).off + 2, none⟩ = some (.int .i64 ((rd_T38 t278 (ji43)).f2))) (ds := []) #[false, false, false, false, false, false, false, false, false, false, false, false, false, false, false, false, false, false, false, false, false, false, false, false, false, false, false, false, false, false, false, false, false, false, false, false, false, false, false, false, false, false, false, false] (by kernel_rfl) rfl rfl ⟨hx295_0, hx295_1, hx295_2, hx296_0, hx296_1, hx296_2, hx297_0, hx297_1, hx297_2, hx298_0, hx298_1, hx298_2, hx299_0, hx299_1, hx299_2, hx300_0, hx300_1, hx300_2⟩ (fun hHeld => ?_); refine with_tabW partitalaw25_SystemsBehind.tab16 partitalaw25_SystemsBehind.bits16 (fun HT_ HW_ => ?_)
                                             generalize wr.drew = w50 at HO_8 HO_11 HB hx295_0 hx295_1 hx295_2 hx296_0 hx296_1 hx296_2 hx297_0 hx297_1 hx297_2 hx298_0 hx298_1 hx298_2 hx299_0 hx299_1 hx299_2 hx300_0 hx300_1 hx300_2 hHeld ⊢
                                             refine pure_ (i := 0) (N := some 89) (v := ?_) (a' := ?_) #[true, false, false, false, false, false, false, false, false, false, false, false, false, false, false, false, false, false, false, false, false, false, false, false, false, false, false, false, false, false, false, false, false, false, false, false, false, false, false, false, false, false, false, false] rfl rfl (any_of HT_.out (by kernel_rfl)) (fun _ _ _ h => h) (Or.inl ⟨by rfl, ?_⟩) ?_ ?_
                                             rotate_left
                                             · intro w'
                                               go_simp
                                               with_reducible rfl
                                             rotate_left
                                             · simp only [Act.put, qa_, qz_, qs_, i64_w, i32_w]
                                               rfl
                                             refine pure_ (i := 1) (N := some 90) (v := ?_) (a' := ?_) #[true, true, false, false, false, false, false, false, false, false, false, false, false, false, false, false, false, false, false, false, false, false, false, false, false, false, false, false, false, false, false, false, false, false, false, false, false, false, false, false, false, false, false, false] rfl rfl (any_of HT_.out (by kernel_rfl)) (fun _ _ _ h => h) (Or.inl ⟨by rfl, ?_⟩) ?_ ?_
                                             rotate_left
                                             · intro w'
                                               go_simp
                                               with_reducible rfl
                                             rotate_left
                                             · simp only [Act.put, qa_, qz_, qs_, i64_w, i32_w]
                                               rfl
                                             refine pure_ (i := 2) (N := some 91) (v := ?_) (a' := ?_) #[true, true, true, false, false, false, false, false, false, false, false, false, false, false, false, false, false, false, false, false, false, false, false, false, false, false, false, false, false, false, false, false, false, false, false, false, false, false, false, false, false, false, false, false] rfl rfl (any_of HT_.out (by kernel_rfl)) (fun _ _ _ h => h) (Or.inl ⟨by rfl, ?_⟩) ?_ ?_
                                             rotate_left
                                             · intro w'
                                               go_simp
                                               with_reducible rfl
                                             rotate_left
                                             · simp only [Act.put, qa_, qz_, qs_, i64_w, i32_w]
                                               rfl
                                             refine pure_ (i := 3) (N := some 92) (v := ?_) (a' := ?_) #[true, true, true, true, false, false, false, false, false, false, false, false, false, false, false, false, false, false, false, false, false, false, false, false, false, false, false, false, false, false, false, false, false, false, false, false, false, false, false, false, false, false, false, false] rfl rfl (any_of HT_.out (by kernel_rfl)) (fun _ _ _ h => h) (Or.inl ⟨by rfl, ?_⟩) ?_ ?_
                                             rotate_left
                                             · intro w'
                                               go_simp
                                               with_reducible rfl
                                             rotate_left
                                             · simp only [Act.put, qa_, qz_, qs_, i64_w, i32_w]
                                               rfl
                                             refine pure_ (i := 5) (N := some 94) (v := ?_) (a' := ?_) #[true, true, true, true, false, true, false, false, false, false, false, false, false, false, false, false, false, false, false, false, false, false, false, false, false, false, false, false, false, false, false, false, false, false, false, false, false, false, false, false, false, false, false, false] rfl rfl (any_of HT_.out (by kernel_rfl)) (fun _ _ _ h => h) (Or.inl ⟨by rfl, ?_⟩) ?_ ?_
                                             rotate_left
                                             · intro w'
                                               go_simp
                                               with_reducible rfl
                                             rotate_left
                                             · simp only [Act.put, qa_, qz_, qs_, i64_w, i32_w]
                                               rfl
                                             refine pure_ (i := 7) (N := some 96) (v := ?_) (a' := ?_) #[true, true, true, true, false, true, false, true, false, false, false, false, false, false, false, false, false, false, false, false, false, false, false, false, false, false, false, false, false, false, false, false, false, false, false, false, false, false, false, false, false, false, false, false] rfl rfl (any_of HT_.out (by kernel_rfl)) (fun _ _ _ h => h) (Or.inl ⟨by rfl, ?_⟩) ?_ ?_
                                             rotate_left
                                             · intro w'
                                               go_simp
                                               with_reducible rfl
                                             rotate_left
                                             · simp only [Act.put, qa_, qz_, qs_, i64_w, i32_w]
                                               rfl
                                             refine pure_ (i := 8) (N := some 97) (v := ?_) (a' := ?_) #[true, true, true, true, false, true, false, true, true, false, false, false, false, false, false, false, false, false, false, false, false, false, false, false, false, false, false, false, false, false, false, false, false, false, false, false, false, false, false, false, false, false, false, false] rfl rfl (any_of HT_.out (by kernel_rfl)) (fun _ _ _ h => h) (Or.inl ⟨by rfl, ?_⟩) ?_ ?_
                                             rotate_left
                                             · intro w'
                                               go_simp
                                               with_reducible rfl
                                             rotate_left
                                             · simp only [Act.put, qa_, qz_, qs_, i64_w, i32_w]
                                               rfl
                                             refine pure_ (i := 9) (N := some 98) (v := ?_) (a' := ?_) #[true, true, true, true, false, true, false, true, true, true, false, false, false, false, false, false, false, false, false, false, false, false, false, false, false, false, false, false, false, false, false, false, false, false, false, false, false, false, false, false, false, false, false, false] rfl rfl (any_of HT_.out (by kernel_rfl)) (fun _ _ _ h => h) (Or.inl ⟨by rfl, ?_⟩) ?_ ?_
                                             rotate_left
                                             · intro w'
                                               go_simp
                                               with_reducible rfl
                                             rotate_left
                                             · simp only [Act.put, qa_, qz_, qs_, i64_w, i32_w]
                                               rfl
                                             refine pure_ (i := 10) (N := some 99) (v := ?_) (a' := ?_) #[true, true, true, true, false, true, false, true, true, true, true, false, false, false, false, false, false, false, false, false, false, false, false, false, false, false, false, false, false, false, false, false, false, false, false, false, false, false, false, false, false, false, false, false] rfl rfl (any_of HT_.out (by kernel_rfl)) (fun _ _ _ h => h) (Or.inl ⟨by rfl, ?_⟩) ?_ ?_
                                             rotate_left
                                             · intro w'
                                               go_simp
                                               with_reducible rfl
                                             rotate_left
                                             · simp only [Act.put, qa_, qz_, qs_, i64_w, i32_w]
                                               rfl
                                             refine pure_ (i := 11) (N := some 100) (v := ?_) (a' := ?_) #[true, true, true, true, false, true, false, true, true, true, true, true, false, false, false, false, false, false, false, false, false, false, false, false, false, false, false, false, false, false, false, false, false, false, false, false, false, false, false, false, false, false, false, false] rfl rfl (any_of HT_.out (by kernel_rfl)) (fun _ _ _ h => h) (Or.inl ⟨by rfl, ?_⟩) ?_ ?_
                                             rotate_left
                                             · intro w'
                                               go_simp
                                               with_reducible rfl
                                             rotate_left
                                             · simp only [Act.put, qa_, qz_, qs_, i64_w, i32_w]
                                               rfl
                                             refine take_ (i := 4) (N := some 93) (v := ?_) (a' := ?_) #[true, true, true, true, true, true, false, true, true, true, true, true, false, false, false, false, false, false, false, false, false, false, false, false, false, false, false, false, false, false, false, false, false, false, false, false, false, false, false, false, false, false, false, false] rfl rfl (take_ofW HT_.out HW_.out (by kernel_rfl)) (fun _ _ _ h => h) (Or.inl ⟨by rfl, ?_⟩) hHeld ?_ ?_
                                             rotate_left
                                             · rintro w' ⟨s0, s1, s2, s3, s4, s5, s6, s7, s8, s9, s10, s11, s12, s13, s14, s15, s16, s17⟩
                                               go_simp
                                               with_reducible rfl
                                             rotate_left
                                             · simp only [Act.put, qa_, qz_, qs_, i64_w, i32_w]
                                               rfl
                                             refine pure_ (i := 6) (N := some 95) (v := ?_) (a' := ?_) #[true, true, true, true, true, true, true, true, true, true, true, true, false, false, false, false, false, false, false, false, false, false, false, false, false, false, false, false, false, false, false, false, false, false, false, false, false, false, false, false, false, false, false, false] rfl rfl (any_of HT_.out (by kernel_rfl)) (fun _ _ _ h => h) (Or.inl ⟨by rfl, ?_⟩) ?_ ?_
                                             rotate_left
                                             · intro w'
                                               go_simp
                                               with_reducible rfl
                                             rotate_left
                                             · simp only [Act.put, qa_, qz_, qs_, i64_w, i32_w]
                                               rfl
                                             refine take_ (i := 12) (N := some 101) (v := ?_) (a' := ?_) #[true, true, true, true, true, true, true, true, true, true, true, true, true, false, false, false, false, false, false, false, false, false, false, false, false, false, false, false, false, false, false, false, false, false, false, false, false, false, false, false, false, false, false, false] rfl rfl (take_ofW HT_.out HW_.out (by kernel_rfl)) (fun _ _ _ h => h) (Or.inl ⟨by rfl, ?_⟩) hHeld ?_ ?_
                                             rotate_left
                                             · rintro w' ⟨s0, s1, s2, s3, s4, s5, s6, s7, s8, s9, s10, s11, s12, s13, s14, s15, s16, s17⟩
                                               go_simp
                                               with_reducible rfl
                                             rotate_left
                                             · simp only [Act.put, qa_, qz_, qs_, i64_w, i32_w]
                                               rfl
                                             refine pure_ (i := 13) (N := some 102) (v := ?_) (a' := ?_) #[true, true, true, true, true, true, true, true, true, true, true, true, true, true, false, false, false, false, false, false, false, false, false, false, false, false, false, false, false, false, false, false, false, false, false, false, false, false, false, false, false, false, false, false] rfl rfl (any_of HT_.out (by kernel_rfl)) (fun _ _ _ h => h) (Or.inl ⟨by rfl, ?_⟩) ?_ ?_
                                             rotate_left
                                             · intro w'
                                               go_simp
                                               with_reducible rfl
                                             rotate_left
                                             · simp only [Act.put, qa_, qz_, qs_, i64_w, i32_w]
                                               rfl
                                             refine pure_ (i := 14) (N := some 103) (v := ?_) (a' := ?_) #[true, true, true, true, true, true, true, true, true, true, true, true, true, true, true, false, false, false, false, false, false, false, false, false, false, false, false, false, false, false, false, false, false, false, false, false, false, false, false, false, false, false, false, false] rfl rfl (any_of HT_.out (by kernel_rfl)) (fun _ _ _ h => h) (Or.inl ⟨by rfl, ?_⟩) ?_ ?_
                                             rotate_left
                                             · intro w'
                                               go_simp
                                               with_reducible rfl
                                             rotate_left
                                             · simp only [Act.put, qa_, qz_, qs_, i64_w, i32_w]
                                               rfl
                                             refine pure_ (i := 15) (N := some 104) (v := ?_) (a' := ?_) #[true, true, true, true, true, true, true, true, true, true, true, true, true, true, true, true, false, false, false, false, false, false, false, false, false, false, false, false, false, false, false, false, false, false, false, false, false, false, false, false, false, false, false, false] rfl rfl (any_of HT_.out (by kernel_rfl)) (fun _ _ _ h => h) (Or.inl ⟨by rfl, ?_⟩) ?_ ?_
                                             rotate_left
                                             · intro w'
                                               go_simp
                                               with_reducible rfl
                                             rotate_left
                                             · simp only [Act.put, qa_, qz_, qs_, i64_w, i32_w]
                                               rfl
                                             refine pure_ (i := 16) (N := some 105) (v := ?_) (a' := ?_) #[true, true, true, true, true, true, true, true, true, true, true, true, true, true, true, true, true, false, false, false, false, false, false, false, false, false, false, false, false, false, false, false, false, false, false, false, false, false, false, false, false, false, false, false] rfl rfl (any_of HT_.out (by kernel_rfl)) (fun _ _ _ h => h) (Or.inl ⟨by rfl, ?_⟩) ?_ ?_
                                             rotate_left
                                             · intro w'
                                               go_simp
                                               with_reducible rfl
                                             rotate_left
                                             · simp only [Act.put, qa_, qz_, qs_, i64_w, i32_w]
                                               rfl
                                             refine pure_ (i := 17) (N := some 106) (v := ?_) (a' := ?_) #[true, true, true, true, true, true, true, true, true, true, true, true, true, true, true, true, true, true, false, false, false, false, false, false, false, false, false, false, false, false, false, false, false, false, false, false, false, false, false, false, false, false, false, false] rfl rfl (any_of HT_.out (by kernel_rfl)) (fun _ _ _ h => h) (Or.inl ⟨by rfl, ?_⟩) ?_ ?_
                                             rotate_left
                                             · intro w'
                                               go_simp
                                               with_reducible rfl
                                             rotate_left
                                             · simp only [Act.put, qa_, qz_, qs_, i64_w, i32_w]
                                               rfl
                                             refine pure_ (i := 18) (N := some 107) (v := ?_) (a' := ?_) #[true, true, true, true, true, true, true, true, true, true, true, true, true, true, true, true, true, true, true, false, false, false, false, false, false, false, false, false, false, false, false, false, false, false, false, false, false, false, false, false, false, false, false, false] rfl rfl (any_of HT_.out (by kernel_rfl)) (fun _ _ _ h => h) (Or.inl ⟨by rfl, ?_⟩) ?_ ?_
                                             rotate_left
                                             · intro w'
                                               go_simp
                                               with_reducible rfl
                                             rotate_left
                                             · simp only [Act.put, qa_, qz_, qs_, i64_w, i32_w]
                                               rfl
                                             refine pure_ (i := 20) (N := some 109) (v := ?_) (a' := ?_) #[true, true, true, true, true, true, true, true, true, true, true, true, true, true, true, true, true, true, true, false, true, false, false, false, false, false, false, false, false, false, false, false, false, false, false, false, false, false, false, false, false, false, false, false] rfl rfl (any_of HT_.out (by kernel_rfl)) (fun _ _ _ h => h) (Or.inl ⟨by rfl, ?_⟩) ?_ ?_
                                             rotate_left
                                             · intro w'
                                               go_simp
                                               with_reducible rfl
                                             rotate_left
                                             · simp only [Act.put, qa_, qz_, qs_, i64_w, i32_w]
                                               rfl
                                             refine pure_ (i := 22) (N := some 111) (v := ?_) (a' := ?_) #[true, true, true, true, true, true, true, true, true, true, true, true, true, true, true, true, true, true, true, false, true, false, true, false, false, false, false, false, false, false, false, false, false, false, false, false, false, false, false, false, false, false, false, false] rfl rfl (any_of HT_.out (by kernel_rfl)) (fun _ _ _ h => h) (Or.inl ⟨by rfl, ?_⟩) ?_ ?_
                                             rotate_left
                                             · intro w'
                                               go_simp
                                               with_reducible rfl
                                             rotate_left
                                             · simp only [Act.put, qa_, qz_, qs_, i64_w, i32_w]
                                               rfl
                                             refine pure_ (i := 23) (N := some 112) (v := ?_) (a' := ?_) #[true, true, true, true, true, true, true, true, true, true, true, true, true, true, true, true, true, true, true, false, true, false, true, true, false, false, false, false, false, false, false, false, false, false, false, false, false, false, false, false, false, false, false, false] rfl rfl (any_of HT_.out (by kernel_rfl)) (fun _ _ _ h => h) (Or.inl ⟨by rfl, ?_⟩) ?_ ?_
                                             rotate_left
                                             · intro w'
                                               go_simp
                                               with_reducible rfl
                                             rotate_left
                                             · simp only [Act.put, qa_, qz_, qs_, i64_w, i32_w]
                                               rfl
                                             refine pure_ (i := 24) (N := some 113) (v := ?_) (a' := ?_) #[true, true, true, true, true, true, true, true, true, true, true, true, true, true, true, true, true, true, true, false, true, false, true, true, true, false, false, false, false, false, false, false, false, false, false, false, false, false, false, false, false, false, false, false] rfl rfl (any_of HT_.out (by kernel_rfl)) (fun _ _ _ h => h) (Or.inl ⟨by rfl, ?_⟩) ?_ ?_
                                             rotate_left
                                             · intro w'
                                               go_simp
                                               with_reducible rfl
                                             rotate_left
                                             · simp only [Act.put, qa_, qz_, qs_, i64_w, i32_w]
                                               rfl
                                             refine pure_ (i := 25) (N := some 114) (v := ?_) (a' := ?_) #[true, true, true, true, true, true, true, true, true, true, true, true, true, true, true, true, true, true, true, false, true, false, true, true, true, true, false, false, false, false, false, false, false, false, false, false, false, false, false, false, false, false, false, false] rfl rfl (any_of HT_.out (by kernel_rfl)) (fun _ _ _ h => h) (Or.inl ⟨by rfl, ?_⟩) ?_ ?_
                                             rotate_left
                                             · intro w'
                                               go_simp
                                               with_reducible rfl
                                             rotate_left
                                             · simp only [Act.put, qa_, qz_, qs_, i64_w, i32_w]
                                               rfl
                                             refine pure_ (i := 26) (N := some 115) (v := ?_) (a' := ?_) #[true, true, true, true, true, true, true, true, true, true, true, true, true, true, true, true, true, true, true, false, true, false, true, true, true, true, true, false, false, false, false, false, false, false, false, false, false, false, false, false, false, false, false, false] rfl rfl (any_of HT_.out (by kernel_rfl)) (fun _ _ _ h => h) (Or.inl ⟨by rfl, ?_⟩) ?_ ?_
                                             rotate_left
                                             · intro w'
                                               go_simp
                                               with_reducible rfl
                                             rotate_left
                                             · simp only [Act.put, qa_, qz_, qs_, i64_w, i32_w]
                                               rfl
                                             refine take_ (i := 19) (N := some 108) (v := ?_) (a' := ?_) #[true, true, true, true, true, true, true, true, true, true, true, true, true, true, true, true, true, true, true, true, true, false, true, true, true, true, true, false, false, false, false, false, false, false, false, false, false, false, false, false, false, false, false, false] rfl rfl (take_ofW HT_.out HW_.out (by kernel_rfl)) (fun _ _ _ h => h) (Or.inl ⟨by rfl, ?_⟩) hHeld ?_ ?_
                                             rotate_left
                                             · rintro w' ⟨s0, s1, s2, s3, s4, s5, s6, s7, s8, s9, s10, s11, s12, s13, s14, s15, s16, s17⟩
                                               go_simp
                                               with_reducible rfl
                                             rotate_left
                                             · simp only [Act.put, qa_, qz_, qs_, i64_w, i32_w]
                                               rfl
                                             refine pure_ (i := 21) (N := some 110) (v := ?_) (a' := ?_) #[true, true, true, true, true, true, true, true, true, true, true, true, true, true, true, true, true, true, true, true, true, true, true, true, true, true, true, false, false, false, false, false, false, false, false, false, false, false, false, false, false, false, false, false] rfl rfl (any_of HT_.out (by kernel_rfl)) (fun _ _ _ h => h) (Or.inl ⟨by rfl, ?_⟩) ?_ ?_
                                             rotate_left
                                             · intro w'
                                               go_simp
                                               with_reducible rfl
                                             rotate_left
                                             · simp only [Act.put, qa_, qz_, qs_, i64_w, i32_w]
                                               rfl
                                             refine take_ (i := 27) (N := some 116) (v := ?_) (a' := ?_) #[true, true, true, true, true, true, true, true, true, true, true, true, true, true, true, true, true, true, true, true, true, true, true, true, true, true, true, true, false, false, false, false, false, false, false, false, false, false, false, false, false, false, false, false] rfl rfl (take_ofW HT_.out HW_.out (by kernel_rfl)) (fun _ _ _ h => h) (Or.inl ⟨by rfl, ?_⟩) hHeld ?_ ?_
                                             rotate_left
                                             · rintro w' ⟨s0, s1, s2, s3, s4, s5, s6, s7, s8, s9, s10, s11, s12, s13, s14, s15, s16, s17⟩
                                               go_simp
                                               with_reducible rfl
                                             rotate_left
                                             · simp only [Act.put, qa_, qz_, qs_, i64_w, i32_w]
                                               rfl
                                             refine pure_ (i := 28) (N := some 117) (v := ?_) (a' := ?_) #[true, true, true, true, true, true, true, true, true, true, true, true, true, true, true, true, true, true, true, true, true, true, true, true, true, true, true, true, true, false, false, false, false, false, false, false, false, false, false, false, false, false, false, false] rfl rfl (any_of HT_.out (by kernel_rfl)) (fun _ _ _ h => h) (Or.inl ⟨by rfl, ?_⟩) ?_ ?_
                                             rotate_left
                                             · intro w'
                                               go_simp
                                               with_reducible rfl
                                             rotate_left
                                             · simp only [Act.put, qa_, qz_, qs_, i64_w, i32_w]
                                               rfl
                                             refine pure_ (i := 29) (N := some 118) (v := ?_) (a' := ?_) #[true, true, true, true, true, true, true, true, true, true, true, true, true, true, true, true, true, true, true, true, true, true, true, true, true, true, true, true, true, true, false, false, false, false, false, false, false, false, false, false, false, false, false, false] rfl rfl (any_of HT_.out (by kernel_rfl)) (fun _ _ _ h => h) (Or.inl ⟨by rfl, ?_⟩) ?_ ?_
                                             rotate_left
                                             · intro w'
                                               go_simp
                                               with_reducible rfl
                                             rotate_left
                                             · simp only [Act.put, qa_, qz_, qs_, i64_w, i32_w]
                                               rfl
                                             refine pure_ (i := 30) (N := some 119) (v := ?_) (a' := ?_) #[true, true, true, true, true, true, true, true, true, true, true, true, true, true, true, true, true, true, true, true, true, true, true, true, true, true, true, true, true, true, true, false, false, false, false, false, false, false, false, false, false, false, false, false] rfl rfl (any_of HT_.out (by kernel_rfl)) (fun _ _ _ h => h) (Or.inl ⟨by rfl, ?_⟩) ?_ ?_
                                             rotate_left
                                             · intro w'
                                               go_simp
                                               with_reducible rfl
                                             rotate_left
                                             · simp only [Act.put, qa_, qz_, qs_, i64_w, i32_w]
                                               rfl
                                             refine pure_ (i := 31) (N := some 120) (v := ?_) (a' := ?_) #[true, true, true, true, true, true, true, true, true, true, true, true, true, true, true, true, true, true, true, true, true, true, true, true, true, true, true, true, true, true, true, true, false, false, false, false, false, false, false, false, false, false, false, false] rfl rfl (any_of HT_.out (by kernel_rfl)) (fun _ _ _ h => h) (Or.inl ⟨by rfl, ?_⟩) ?_ ?_
                                             rotate_left
                                             · intro w'
                                               go_simp
                                               with_reducible rfl
                                             rotate_left
                                             · simp only [Act.put, qa_, qz_, qs_, i64_w, i32_w]
                                               rfl
                                             refine pure_ (i := 32) (N := some 121) (v := ?_) (a' := ?_) #[true, true, true, true, true, true, true, true, true, true, true, true, true, true, true, true, true, true, true, true, true, true, true, true, true, true, true, true, true, true, true, true, true, false, false, false, false, false, false, false, false, false, false, false] rfl rfl (any_of HT_.out (by kernel_rfl)) (fun _ _ _ h => h) (Or.inl ⟨by rfl, ?_⟩) ?_ ?_
                                             rotate_left
                                             · intro w'
                                               go_simp
                                               with_reducible rfl
                                             rotate_left
                                             · simp only [Act.put, qa_, qz_, qs_, i64_w, i32_w]
                                               rfl
                                             refine pure_ (i := 33) (N := some 122) (v := ?_) (a' := ?_) #[true, true, true, true, true, true, true, true, true, true, true, true, true, true, true, true, true, true, true, true, true, true, true, true, true, true, true, true, true, true, true, true, true, true, false, false, false, false, false, false, false, false, false, false] rfl rfl (any_of HT_.out (by kernel_rfl)) (fun _ _ _ h => h) (Or.inl ⟨by rfl, ?_⟩) ?_ ?_
                                             rotate_left
                                             · intro w'
                                               go_simp
                                               with_reducible rfl
                                             rotate_left
                                             · simp only [Act.put, qa_, qz_, qs_, i64_w, i32_w]
                                               rfl
                                             refine pure_ (i := 34) (N := some 123) (v := ?_) (a' := ?_) #[true, true, true, true, true, true, true, true, true, true, true, true, true, true, true, true, true, true, true, true, true, true, true, true, true, true, true, true, true, true, true, true, true, true, true, false, false, false, false, false, false, false, false, false] rfl rfl (any_of HT_.out (by kernel_rfl)) (fun _ _ _ h => h) (Or.inl ⟨by rfl, ?_⟩) ?_ ?_
                                             rotate_left
                                             · intro w'
                                               go_simp
                                               with_reducible rfl
                                             rotate_left
                                             · simp only [Act.put, qa_, qz_, qs_, i64_w, i32_w]
                                               rfl
                                             refine pure_ (i := 36) (N := some 125) (v := ?_) (a' := ?_) #[true, true, true, true, true, true, true, true, true, true, true, true, true, true, true, true, true, true, true, true, true, true, true, true, true, true, true, true, true, true, true, true, true, true, true, false, true, false, false, false, false, false, false, false] rfl rfl (any_of HT_.out (by kernel_rfl)) (fun _ _ _ h => h) (Or.inl ⟨by rfl, ?_⟩) ?_ ?_
                                             rotate_left
                                             · intro w'
                                               go_simp
                                               with_reducible rfl
                                             rotate_left
                                             · simp only [Act.put, qa_, qz_, qs_, i64_w, i32_w]
                                               rfl
                                             refine pure_ (i := 37) (N := some 126) (v := ?_) (a' := ?_) #[true, true, true, true, true, true, true, true, true, true, true, true, true, true, true, true, true, true, true, true, true, true, true, true, true, true, true, true, true, true, true, true, true, true, true, false, true, true, false, false, false, false, false, false] rfl rfl (any_of HT_.out (by kernel_rfl)) (fun _ _ _ h => h) (Or.inl ⟨by rfl, ?_⟩) ?_ ?_
                                             rotate_left
                                             · intro w'
                                               go_simp
                                               with_reducible rfl
                                             rotate_left
                                             · simp only [Act.put, qa_, qz_, qs_, i64_w, i32_w]
                                               rfl
                                             refine pure_ (i := 38) (N := some 127) (v := ?_) (a' := ?_) #[true, true, true, true, true, true, true, true, true, true, true, true, true, true, true, true, true, true, true, true, true, true, true, true, true, true, true, true, true, true, true, true, true, true, true, false, true, true, true, false, false, false, false, false] rfl rfl (any_of HT_.out (by kernel_rfl)) (fun _ _ _ h => h) (Or.inl ⟨by rfl, ?_⟩) ?_ ?_
                                             rotate_left
                                             · intro w'
                                               go_simp
                                               with_reducible rfl
                                             rotate_left
                                             · simp only [Act.put, qa_, qz_, qs_, i64_w, i32_w]
                                               rfl
                                             refine pure_ (i := 39) (N := some 128) (v := ?_) (a' := ?_) #[true, true, true, true, true, true, true, true, true, true, true, true, true, true, true, true, true, true, true, true, true, true, true, true, true, true, true, true, true, true, true, true, true, true, true, false, true, true, true, true, false, false, false, false] rfl rfl (any_of HT_.out (by kernel_rfl)) (fun _ _ _ h => h) (Or.inl ⟨by rfl, ?_⟩) ?_ ?_
                                             rotate_left
                                             · intro w'
                                               go_simp
                                               with_reducible rfl
                                             rotate_left
                                             · simp only [Act.put, qa_, qz_, qs_, i64_w, i32_w]
                                               rfl
                                             refine pure_ (i := 40) (N := some 129) (v := ?_) (a' := ?_) #[true, true, true, true, true, true, true, true, true, true, true, true, true, true, true, true, true, true, true, true, true, true, true, true, true, true, true, true, true, true, true, true, true, true, true, false, true, true, true, true, true, false, false, false] rfl rfl (any_of HT_.out (by kernel_rfl)) (fun _ _ _ h => h) (Or.inl ⟨by rfl, ?_⟩) ?_ ?_
                                             rotate_left
                                             · intro w'
                                               go_simp
                                               with_reducible rfl
                                             rotate_left
                                             · simp only [Act.put, qa_, qz_, qs_, i64_w, i32_w]
                                               rfl
                                             refine take_ (i := 35) (N := some 124) (v := ?_) (a' := ?_) #[true, true, true, true, true, true, true, true, true, true, true, true, true, true, true, true, true, true, true, true, true, true, true, true, true, true, true, true, true, true, true, true, true, true, true, true, true, true, true, true, true, false, false, false] rfl rfl (take_ofW HT_.out HW_.out (by kernel_rfl)) (fun _ _ _ h => h) (Or.inl ⟨by rfl, ?_⟩) hHeld ?_ ?_
                                             rotate_left
                                             · rintro w' ⟨s0, s1, s2, s3, s4, s5, s6, s7, s8, s9, s10, s11, s12, s13, s14, s15, s16, s17⟩
                                               go_simp
                                               with_reducible rfl
                                             rotate_left
                                             · simp only [Act.put, qa_, qz_, qs_, i64_w, i32_w]
                                               rfl
                                             refine take_ (i := 41) (N := some 130) (v := ?_) (a' := ?_) #[true, true, true, true, true, true, true, true, true, true, true, true, true, true, true, true, true, true, true, true, true, true, true, true, true, true, true, true, true, true, true, true, true, true, true, true, true, true, true, true, true, true, false, false] rfl rfl (take_ofW HT_.out HW_.out (by kernel_rfl)) (fun _ _ _ h => h) (Or.inl ⟨by rfl, ?_⟩) hHeld ?_ ?_
                                             rotate_left
                                             · rintro w' ⟨s0, s1, s2, s3, s4, s5, s6, s7, s8, s9, s10, s11, s12, s13, s14, s15, s16, s17⟩
                                               go_simp
                                               with_reducible rfl
                                             rotate_left
                                             · simp only [Act.put, qa_, qz_, qs_, i64_w, i32_w]
                                               rfl
                                             refine pure_ (i := 42) (N := some 131) (v := ?_) (a' := ?_) #[true, true, true, true, true, true, true, true, true, true, true, true, true, true, true, true, true, true, true, true, true, true, true, true, true, true, true, true, true, true, true, true, true, true, true, true, true, true, true, true, true, true, true, false] rfl rfl (any_of HT_.out (by kernel_rfl)) (fun _ _ _ h => h) (Or.inl ⟨by rfl, ?_⟩) ?_ ?_
                                             rotate_left
                                             · intro w'
                                               go_simp
                                               with_reducible rfl
                                             rotate_left
                                             · simp only [Act.put, qa_, qz_, qs_, i64_w, i32_w]
                                               rfl
                                             refine pure_ (i := 43) (N := some 132) (v := ?_) (a' := ?_) #[true, true, true, true, true, true, true, true, true, true, true, true, true, true, true, true, true, true, true, true, true, true, true, true, true, true, true, true, true, true, true, true, true, true, true, true, true, true, true, true, true, true, true, true] rfl rfl (any_of HT_.out (by kernel_rfl)) (fun _ _ _ h => h) (Or.inl ⟨by rfl, ?_⟩) ?_ ?_
                                             rotate_left
                                             · intro w'
                                               go_simp
                                               with_reducible rfl
                                             rotate_left
                                             · simp only [Act.put, qa_, qz_, qs_, i64_w, i32_w]
                                               rfl
                                             refine done_ (done_of HT_.out (by kernel_rfl)) ?_
                                             try go_wp2
                                             go_roundg k4
                                             case measure => have := HJ11.out; have := HJ22.out; have := HJ32.out; have := HK4.out; omega
                                             case rel => exact ⟨(ji43), (by first | rfl | (simp; done) | (simp only [← hji43] <;> (first | rfl | simp)) | (simp [*]; done)), H', ⟨by have := HJ11.out; have := HJ22.out; have := HJ32.out; have := HK4.out; omega⟩, ⟨by (with_reducible repeat (first | apply Kd.R_alloc | apply Kd.R_drewN | apply Kd.R_drew)); exact HO_8.out⟩, ⟨by (with_reducible repeat (first | apply Kd.R_alloc | apply Kd.R_drewN | apply Kd.R_drew)); exact HO_11.out⟩, ⟨by repeat (first | (with_reducible first | exact HB.out | apply below_alloc | apply pw_below_drewN | apply below_drew1) | exact HB.out)⟩⟩
                                           · rw [if_neg c48] at H
                                             cases H
                                         · rw [if_neg c47] at H
                                           cases H
                                       · rw [if_neg c46] at H
                                         cases H
                                     · rw [if_neg c45] at H
                                       exact absurd H (by simp)
                                   · rw [if_neg c44] at H
                                     exact absurd H (by simp)
                                 · rw [if_neg c42] at H
                                   exact absurd H (by simp)
                               · rw [if_neg c41] at H
                                 have c41b0 : decide (x13_4 < (t291.length : Int)) = false := decide_eq_false c41
                                 clear c41
                                 obtain rfl := Option.some.inj H
                                 obtain ⟨Ao57, co57, eo57⟩ := Kd.R_slice HO_11.out
                                 subst eo57
                                 go_wp2
                                 go_ret
                                 exact ⟨by first | rfl | (simp [errW_none, errW_some] <;> rfl) | (simp only [← hji5, ← hji8]; first | rfl | (simp [errW_none, errW_some] <;> rfl)) | (simp [*, errW_none, errW_some] <;> rfl), by repeat (first | (with_reducible first | exact HB.out | apply below_alloc | apply pw_below_drewN | apply below_drew1) | exact HB.out)⟩
                       · rw [if_neg c31] at H
                         exact absurd H (by simp)
                     · rw [if_neg c29] at H
                       exact absurd H (by simp)
                   · rw [if_neg c28] at H
                     exact absurd H (by simp)
             · rw [if_neg c22] at H
               exact absurd H (by simp)
       · rw [if_neg c10] at H
         exact absurd H (by simp)
     · rw [if_neg c9] at H
       exact absurd H (by simp)
   · rw [if_neg c7] at H
     exact absurd H (by simp)
 · rw [if_neg c6] at H
   exact absurd H (by simp)

end Go.Proofs.YtneaoicjbiebkaaDoor.Q
