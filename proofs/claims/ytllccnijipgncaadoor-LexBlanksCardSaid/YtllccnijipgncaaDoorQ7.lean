-- Written by a program of this session (myprint.py), function by function.
import Derived.Test.YtllccnijipgncaaDoorQ0
namespace Go.Proofs.YtllccnijipgncaaDoor.Q
open Go.RowKit Go.Proofs.YtllccnijipgncaaDoorW.PrintWords Go.Proofs.YtllccnijipgncaaDoorW.PrintLast Go.Proofs.YtllccnijipgncaaDoorW.PrintMore
attribute [local go_sem] max2_int min2_int max_two min_two max_three min_three max_four min_four   -- for this text's walks alone
set_option linter.unusedVariables false
set_option linter.unusedSimpArgs false

/-! ### partitaref06_Rune: function 33 -/
mutual
def partitaref06_Rune.j0 : Nat → ByteArray → Int → Int → Int → Bool → Option (Int)
 | 0, _, _, _, _, _ => none
 | k + 1, x0, x3, x4, x5, x21 => if x21 = true then (partitaref06_Rune.j1 k x0 x3 2 x5) else (partitaref06_Rune.j1 k x0 x3 x4 x5)
def partitaref06_Rune.j1 : Nat → ByteArray → Int → Int → Int → Option (Int)
 | 0, _, _, _, _ => none
 | k + 1, x0, x3, x4, x5 => if x3 ≥ 224 then (partitaref06_Rune.j2 k x0 x3 x4 x5 (decide (x3 ≤ 239))) else (partitaref06_Rune.j2 k x0 x3 x4 x5 false)
def partitaref06_Rune.j2 : Nat → ByteArray → Int → Int → Int → Bool → Option (Int)
 | 0, _, _, _, _, _ => none
 | k + 1, x0, x3, x4, x5, x27 => if x27 = true then (partitaref06_Rune.j3 k x0 x3 3 x5) else (partitaref06_Rune.j3 k x0 x3 x4 x5)
def partitaref06_Rune.j3 : Nat → ByteArray → Int → Int → Int → Option (Int)
 | 0, _, _, _, _ => none
 | k + 1, x0, x3, x4, x5 => if x3 ≥ 240 then (partitaref06_Rune.j4 k x0 x3 x4 x5 (decide (x3 ≤ 244))) else (partitaref06_Rune.j4 k x0 x3 x4 x5 false)
def partitaref06_Rune.j4 : Nat → ByteArray → Int → Int → Int → Bool → Option (Int)
 | 0, _, _, _, _, _ => none
 | k + 1, x0, x3, x4, x5, x33 => if x33 = true then (partitaref06_Rune.j5 k x0 x3 4 x5) else (partitaref06_Rune.j5 k x0 x3 x4 x5)
def partitaref06_Rune.j5 : Nat → ByteArray → Int → Int → Int → Option (Int)
 | 0, _, _, _, _ => none
 | k + 1, x0, x3, x4, x5 => if x4 = 0 then (partitaref06_Rune.j6 k x0 x3 x4 x5 true) else (partitaref06_Rune.j6 k x0 x3 x4 x5 (decide ((x0.size : Int) < x4)))
def partitaref06_Rune.j6 : Nat → ByteArray → Int → Int → Int → Bool → Option (Int)
 | 0, _, _, _, _, _ => none
 | k + 1, x0, x3, x4, x5, x41 => if x41 = true then (some 0) else (if x3 = 224 then (partitaref06_Rune.j7 k x0 x3 x4 160) else (partitaref06_Rune.j7 k x0 x3 x4 x5))
def partitaref06_Rune.j7 : Nat → ByteArray → Int → Int → Int → Option (Int)
 | 0, _, _, _, _ => none
 | k + 1, x0, x3, x4, x5 => if x3 = 240 then (partitaref06_Rune.j8 k x0 x3 x4 144) else (partitaref06_Rune.j8 k x0 x3 x4 x5)
def partitaref06_Rune.j8 : Nat → ByteArray → Int → Int → Int → Option (Int)
 | 0, _, _, _, _ => none
 | k + 1, x0, x3, x4, x5 => if 1 < (x0.size : Int) then (if (wrap64 (bt x0 1)) < x5 then (partitaref06_Rune.j9 k x0 x4 true) else (if (wrap64 (bt x0 1)) > 191 then (partitaref06_Rune.j9 k x0 x4 true) else (if x3 = 237 then (if (wrap64 (bt x0 1)) > 159 then (partitaref06_Rune.j9 k x0 x4 true) else (if x3 = 244 then (partitaref06_Rune.j9 k x0 x4 (decide ((wrap64 (bt x0 1)) > 143))) else (partitaref06_Rune.j9 k x0 x4 false))) else (if x3 = 244 then (partitaref06_Rune.j9 k x0 x4 (decide ((wrap64 (bt x0 1)) > 143))) else (partitaref06_Rune.j9 k x0 x4 false))))) else (none)
def partitaref06_Rune.j9 : Nat → ByteArray → Int → Bool → Option (Int)
 | 0, _, _, _ => none
 | k + 1, x0, x4, x71 => if x71 = true then (some 0) else (partitaref06_Rune.l0 k x0 x4 2)
def partitaref06_Rune.l0 : Nat → ByteArray → Int → Int → Option (Int)
 | 0, _, _, _ => none
 | k + 1, x0, x4, x7 => if x7 < x4 then (if 0 ≤ x7 then (if x7 < (x0.size : Int) then (if (bt x0 x7) < 128 then (some 0) else (if (bt x0 x7) > 191 then (some 0) else (partitaref06_Rune.l0 k x0 x4 (wrap64 (x7 + 1))))) else (none)) else (none)) else (some x4)
end
def partitaref06_Rune.f (k : Nat) (a0 : ByteArray) : Option (Int) := if (a0.size : Int) = 0 then (some 0) else (if 0 < (a0.size : Int) then (if (wrap64 (bt a0 0)) < 128 then (some 1) else (if (wrap64 (bt a0 0)) ≥ 194 then (partitaref06_Rune.j0 k a0 (wrap64 (bt a0 0)) 0 128 (decide ((wrap64 (bt a0 0)) ≤ 223))) else (partitaref06_Rune.j0 k a0 (wrap64 (bt a0 0)) 0 128 false))) else (none))
theorem partitaref06_Rune.mono_l : ∀ k, (∀ y0 y1 y2 y3 y4, LeO (partitaref06_Rune.j0 k y0 y1 y2 y3 y4) (partitaref06_Rune.j0 (k + 1) y0 y1 y2 y3 y4)) ∧ (∀ y0 y1 y2 y3, LeO (partitaref06_Rune.j1 k y0 y1 y2 y3) (partitaref06_Rune.j1 (k + 1) y0 y1 y2 y3)) ∧ (∀ y0 y1 y2 y3 y4, LeO (partitaref06_Rune.j2 k y0 y1 y2 y3 y4) (partitaref06_Rune.j2 (k + 1) y0 y1 y2 y3 y4)) ∧ (∀ y0 y1 y2 y3, LeO (partitaref06_Rune.j3 k y0 y1 y2 y3) (partitaref06_Rune.j3 (k + 1) y0 y1 y2 y3)) ∧ (∀ y0 y1 y2 y3 y4, LeO (partitaref06_Rune.j4 k y0 y1 y2 y3 y4) (partitaref06_Rune.j4 (k + 1) y0 y1 y2 y3 y4)) ∧ (∀ y0 y1 y2 y3, LeO (partitaref06_Rune.j5 k y0 y1 y2 y3) (partitaref06_Rune.j5 (k + 1) y0 y1 y2 y3)) ∧ (∀ y0 y1 y2 y3 y4, LeO (partitaref06_Rune.j6 k y0 y1 y2 y3 y4) (partitaref06_Rune.j6 (k + 1) y0 y1 y2 y3 y4)) ∧ (∀ y0 y1 y2 y3, LeO (partitaref06_Rune.j7 k y0 y1 y2 y3) (partitaref06_Rune.j7 (k + 1) y0 y1 y2 y3)) ∧ (∀ y0 y1 y2 y3, LeO (partitaref06_Rune.j8 k y0 y1 y2 y3) (partitaref06_Rune.j8 (k + 1) y0 y1 y2 y3)) ∧ (∀ y0 y1 y2, LeO (partitaref06_Rune.j9 k y0 y1 y2) (partitaref06_Rune.j9 (k + 1) y0 y1 y2)) ∧ (∀ y0 y1 y2, LeO (partitaref06_Rune.l0 k y0 y1 y2) (partitaref06_Rune.l0 (k + 1) y0 y1 y2))
 | 0 => ⟨fun _ _ _ _ _ r h => by simp [partitaref06_Rune.j0] at h, fun _ _ _ _ r h => by simp [partitaref06_Rune.j1] at h, fun _ _ _ _ _ r h => by simp [partitaref06_Rune.j2] at h, fun _ _ _ _ r h => by simp [partitaref06_Rune.j3] at h, fun _ _ _ _ _ r h => by simp [partitaref06_Rune.j4] at h, fun _ _ _ _ r h => by simp [partitaref06_Rune.j5] at h, fun _ _ _ _ _ r h => by simp [partitaref06_Rune.j6] at h, fun _ _ _ _ r h => by simp [partitaref06_Rune.j7] at h, fun _ _ _ _ r h => by simp [partitaref06_Rune.j8] at h, fun _ _ _ r h => by simp [partitaref06_Rune.j9] at h, fun _ _ _ r h => by simp [partitaref06_Rune.l0] at h⟩
 | k + 1 => by
  obtain ⟨ih0, ih1, ih2, ih3, ih4, ih5, ih6, ih7, ih8, ih9, ih10⟩ := partitaref06_Rune.mono_l k
  refine ⟨?_, ?_, ?_, ?_, ?_, ?_, ?_, ?_, ?_, ?_, ?_⟩
  · intro y0 y1 y2 y3 y4
    unfold partitaref06_Rune.j0
    repeat' first
    | (with_reducible exact ih0 _ _ _ _ _)
    | (with_reducible exact ih1 _ _ _ _)
    | (with_reducible exact ih2 _ _ _ _ _)
    | (with_reducible exact ih3 _ _ _ _)
    | (with_reducible exact ih4 _ _ _ _ _)
    | (with_reducible exact ih5 _ _ _ _)
    | (with_reducible exact ih6 _ _ _ _ _)
    | (with_reducible exact ih7 _ _ _ _)
    | (with_reducible exact ih8 _ _ _ _)
    | (with_reducible exact ih9 _ _ _)
    | (with_reducible exact ih10 _ _ _)
    | (with_reducible exact LeO.refl _)
    | (with_reducible exact LeO.none _)
    | (with_reducible refine LeO.ite ?_ ?_)
    | (with_reducible refine LeO.bind ?_ (fun _ => ?_))
    | exact ih0 _ _ _ _ _
    | exact ih1 _ _ _ _
    | exact ih2 _ _ _ _ _
    | exact ih3 _ _ _ _
    | exact ih4 _ _ _ _ _
    | exact ih5 _ _ _ _
    | exact ih6 _ _ _ _ _
    | exact ih7 _ _ _ _
    | exact ih8 _ _ _ _
    | exact ih9 _ _ _
    | exact ih10 _ _ _
    | exact LeO.none _
    | refine LeO.ite ?_ ?_
    | refine LeO.bind ?_ (fun _ => ?_)
  · intro y0 y1 y2 y3
    unfold partitaref06_Rune.j1
    repeat' first
    | (with_reducible exact ih0 _ _ _ _ _)
    | (with_reducible exact ih1 _ _ _ _)
    | (with_reducible exact ih2 _ _ _ _ _)
    | (with_reducible exact ih3 _ _ _ _)
    | (with_reducible exact ih4 _ _ _ _ _)
    | (with_reducible exact ih5 _ _ _ _)
    | (with_reducible exact ih6 _ _ _ _ _)
    | (with_reducible exact ih7 _ _ _ _)
    | (with_reducible exact ih8 _ _ _ _)
    | (with_reducible exact ih9 _ _ _)
    | (with_reducible exact ih10 _ _ _)
    | (with_reducible exact LeO.refl _)
    | (with_reducible exact LeO.none _)
    | (with_reducible refine LeO.ite ?_ ?_)
    | (with_reducible refine LeO.bind ?_ (fun _ => ?_))
    | exact ih0 _ _ _ _ _
    | exact ih1 _ _ _ _
    | exact ih2 _ _ _ _ _
    | exact ih3 _ _ _ _
    | exact ih4 _ _ _ _ _
    | exact ih5 _ _ _ _
    | exact ih6 _ _ _ _ _
    | exact ih7 _ _ _ _
    | exact ih8 _ _ _ _
    | exact ih9 _ _ _
    | exact ih10 _ _ _
    | exact LeO.none _
    | refine LeO.ite ?_ ?_
    | refine LeO.bind ?_ (fun _ => ?_)
  · intro y0 y1 y2 y3 y4
    unfold partitaref06_Rune.j2
    repeat' first
    | (with_reducible exact ih0 _ _ _ _ _)
    | (with_reducible exact ih1 _ _ _ _)
    | (with_reducible exact ih2 _ _ _ _ _)
    | (with_reducible exact ih3 _ _ _ _)
    | (with_reducible exact ih4 _ _ _ _ _)
    | (with_reducible exact ih5 _ _ _ _)
    | (with_reducible exact ih6 _ _ _ _ _)
    | (with_reducible exact ih7 _ _ _ _)
    | (with_reducible exact ih8 _ _ _ _)
    | (with_reducible exact ih9 _ _ _)
    | (with_reducible exact ih10 _ _ _)
    | (with_reducible exact LeO.refl _)
    | (with_reducible exact LeO.none _)
    | (with_reducible refine LeO.ite ?_ ?_)
    | (with_reducible refine LeO.bind ?_ (fun _ => ?_))
    | exact ih0 _ _ _ _ _
    | exact ih1 _ _ _ _
    | exact ih2 _ _ _ _ _
    | exact ih3 _ _ _ _
    | exact ih4 _ _ _ _ _
    | exact ih5 _ _ _ _
    | exact ih6 _ _ _ _ _
    | exact ih7 _ _ _ _
    | exact ih8 _ _ _ _
    | exact ih9 _ _ _
    | exact ih10 _ _ _
    | exact LeO.none _
    | refine LeO.ite ?_ ?_
    | refine LeO.bind ?_ (fun _ => ?_)
  · intro y0 y1 y2 y3
    unfold partitaref06_Rune.j3
    repeat' first
    | (with_reducible exact ih0 _ _ _ _ _)
    | (with_reducible exact ih1 _ _ _ _)
    | (with_reducible exact ih2 _ _ _ _ _)
    | (with_reducible exact ih3 _ _ _ _)
    | (with_reducible exact ih4 _ _ _ _ _)
    | (with_reducible exact ih5 _ _ _ _)
    | (with_reducible exact ih6 _ _ _ _ _)
    | (with_reducible exact ih7 _ _ _ _)
    | (with_reducible exact ih8 _ _ _ _)
    | (with_reducible exact ih9 _ _ _)
    | (with_reducible exact ih10 _ _ _)
    | (with_reducible exact LeO.refl _)
    | (with_reducible exact LeO.none _)
    | (with_reducible refine LeO.ite ?_ ?_)
    | (with_reducible refine LeO.bind ?_ (fun _ => ?_))
    | exact ih0 _ _ _ _ _
    | exact ih1 _ _ _ _
    | exact ih2 _ _ _ _ _
    | exact ih3 _ _ _ _
    | exact ih4 _ _ _ _ _
    | exact ih5 _ _ _ _
    | exact ih6 _ _ _ _ _
    | exact ih7 _ _ _ _
    | exact ih8 _ _ _ _
    | exact ih9 _ _ _
    | exact ih10 _ _ _
    | exact LeO.none _
    | refine LeO.ite ?_ ?_
    | refine LeO.bind ?_ (fun _ => ?_)
  · intro y0 y1 y2 y3 y4
    unfold partitaref06_Rune.j4
    repeat' first
    | (with_reducible exact ih0 _ _ _ _ _)
    | (with_reducible exact ih1 _ _ _ _)
    | (with_reducible exact ih2 _ _ _ _ _)
    | (with_reducible exact ih3 _ _ _ _)
    | (with_reducible exact ih4 _ _ _ _ _)
    | (with_reducible exact ih5 _ _ _ _)
    | (with_reducible exact ih6 _ _ _ _ _)
    | (with_reducible exact ih7 _ _ _ _)
    | (with_reducible exact ih8 _ _ _ _)
    | (with_reducible exact ih9 _ _ _)
    | (with_reducible exact ih10 _ _ _)
    | (with_reducible exact LeO.refl _)
    | (with_reducible exact LeO.none _)
    | (with_reducible refine LeO.ite ?_ ?_)
    | (with_reducible refine LeO.bind ?_ (fun _ => ?_))
    | exact ih0 _ _ _ _ _
    | exact ih1 _ _ _ _
    | exact ih2 _ _ _ _ _
    | exact ih3 _ _ _ _
    | exact ih4 _ _ _ _ _
    | exact ih5 _ _ _ _
    | exact ih6 _ _ _ _ _
    | exact ih7 _ _ _ _
    | exact ih8 _ _ _ _
    | exact ih9 _ _ _
    | exact ih10 _ _ _
    | exact LeO.none _
    | refine LeO.ite ?_ ?_
    | refine LeO.bind ?_ (fun _ => ?_)
  · intro y0 y1 y2 y3
    unfold partitaref06_Rune.j5
    repeat' first
    | (with_reducible exact ih0 _ _ _ _ _)
    | (with_reducible exact ih1 _ _ _ _)
    | (with_reducible exact ih2 _ _ _ _ _)
    | (with_reducible exact ih3 _ _ _ _)
    | (with_reducible exact ih4 _ _ _ _ _)
    | (with_reducible exact ih5 _ _ _ _)
    | (with_reducible exact ih6 _ _ _ _ _)
    | (with_reducible exact ih7 _ _ _ _)
    | (with_reducible exact ih8 _ _ _ _)
    | (with_reducible exact ih9 _ _ _)
    | (with_reducible exact ih10 _ _ _)
    | (with_reducible exact LeO.refl _)
    | (with_reducible exact LeO.none _)
    | (with_reducible refine LeO.ite ?_ ?_)
    | (with_reducible refine LeO.bind ?_ (fun _ => ?_))
    | exact ih0 _ _ _ _ _
    | exact ih1 _ _ _ _
    | exact ih2 _ _ _ _ _
    | exact ih3 _ _ _ _
    | exact ih4 _ _ _ _ _
    | exact ih5 _ _ _ _
    | exact ih6 _ _ _ _ _
    | exact ih7 _ _ _ _
    | exact ih8 _ _ _ _
    | exact ih9 _ _ _
    | exact ih10 _ _ _
    | exact LeO.none _
    | refine LeO.ite ?_ ?_
    | refine LeO.bind ?_ (fun _ => ?_)
  · intro y0 y1 y2 y3 y4
    unfold partitaref06_Rune.j6
    repeat' first
    | (with_reducible exact ih0 _ _ _ _ _)
    | (with_reducible exact ih1 _ _ _ _)
    | (with_reducible exact ih2 _ _ _ _ _)
    | (with_reducible exact ih3 _ _ _ _)
    | (with_reducible exact ih4 _ _ _ _ _)
    | (with_reducible exact ih5 _ _ _ _)
    | (with_reducible exact ih6 _ _ _ _ _)
    | (with_reducible exact ih7 _ _ _ _)
    | (with_reducible exact ih8 _ _ _ _)
    | (with_reducible exact ih9 _ _ _)
    | (with_reducible exact ih10 _ _ _)
    | (with_reducible exact LeO.refl _)
    | (with_reducible exact LeO.none _)
    | (with_reducible refine LeO.ite ?_ ?_)
    | (with_reducible refine LeO.bind ?_ (fun _ => ?_))
    | exact ih0 _ _ _ _ _
    | exact ih1 _ _ _ _
    | exact ih2 _ _ _ _ _
    | exact ih3 _ _ _ _
    | exact ih4 _ _ _ _ _
    | exact ih5 _ _ _ _
    | exact ih6 _ _ _ _ _
    | exact ih7 _ _ _ _
    | exact ih8 _ _ _ _
    | exact ih9 _ _ _
    | exact ih10 _ _ _
    | exact LeO.none _
    | refine LeO.ite ?_ ?_
    | refine LeO.bind ?_ (fun _ => ?_)
  · intro y0 y1 y2 y3
    unfold partitaref06_Rune.j7
    repeat' first
    | (with_reducible exact ih0 _ _ _ _ _)
    | (with_reducible exact ih1 _ _ _ _)
    | (with_reducible exact ih2 _ _ _ _ _)
    | (with_reducible exact ih3 _ _ _ _)
    | (with_reducible exact ih4 _ _ _ _ _)
    | (with_reducible exact ih5 _ _ _ _)
    | (with_reducible exact ih6 _ _ _ _ _)
    | (with_reducible exact ih7 _ _ _ _)
    | (with_reducible exact ih8 _ _ _ _)
    | (with_reducible exact ih9 _ _ _)
    | (with_reducible exact ih10 _ _ _)
    | (with_reducible exact LeO.refl _)
    | (with_reducible exact LeO.none _)
    | (with_reducible refine LeO.ite ?_ ?_)
    | (with_reducible refine LeO.bind ?_ (fun _ => ?_))
    | exact ih0 _ _ _ _ _
    | exact ih1 _ _ _ _
    | exact ih2 _ _ _ _ _
    | exact ih3 _ _ _ _
    | exact ih4 _ _ _ _ _
    | exact ih5 _ _ _ _
    | exact ih6 _ _ _ _ _
    | exact ih7 _ _ _ _
    | exact ih8 _ _ _ _
    | exact ih9 _ _ _
    | exact ih10 _ _ _
    | exact LeO.none _
    | refine LeO.ite ?_ ?_
    | refine LeO.bind ?_ (fun _ => ?_)
  · intro y0 y1 y2 y3
    unfold partitaref06_Rune.j8
    repeat' first
    | (with_reducible exact ih0 _ _ _ _ _)
    | (with_reducible exact ih1 _ _ _ _)
    | (with_reducible exact ih2 _ _ _ _ _)
    | (with_reducible exact ih3 _ _ _ _)
    | (with_reducible exact ih4 _ _ _ _ _)
    | (with_reducible exact ih5 _ _ _ _)
    | (with_reducible exact ih6 _ _ _ _ _)
    | (with_reducible exact ih7 _ _ _ _)
    | (with_reducible exact ih8 _ _ _ _)
    | (with_reducible exact ih9 _ _ _)
    | (with_reducible exact ih10 _ _ _)
    | (with_reducible exact LeO.refl _)
    | (with_reducible exact LeO.none _)
    | (with_reducible refine LeO.ite ?_ ?_)
    | (with_reducible refine LeO.bind ?_ (fun _ => ?_))
    | exact ih0 _ _ _ _ _
    | exact ih1 _ _ _ _
    | exact ih2 _ _ _ _ _
    | exact ih3 _ _ _ _
    | exact ih4 _ _ _ _ _
    | exact ih5 _ _ _ _
    | exact ih6 _ _ _ _ _
    | exact ih7 _ _ _ _
    | exact ih8 _ _ _ _
    | exact ih9 _ _ _
    | exact ih10 _ _ _
    | exact LeO.none _
    | refine LeO.ite ?_ ?_
    | refine LeO.bind ?_ (fun _ => ?_)
  · intro y0 y1 y2
    unfold partitaref06_Rune.j9
    repeat' first
    | (with_reducible exact ih0 _ _ _ _ _)
    | (with_reducible exact ih1 _ _ _ _)
    | (with_reducible exact ih2 _ _ _ _ _)
    | (with_reducible exact ih3 _ _ _ _)
    | (with_reducible exact ih4 _ _ _ _ _)
    | (with_reducible exact ih5 _ _ _ _)
    | (with_reducible exact ih6 _ _ _ _ _)
    | (with_reducible exact ih7 _ _ _ _)
    | (with_reducible exact ih8 _ _ _ _)
    | (with_reducible exact ih9 _ _ _)
    | (with_reducible exact ih10 _ _ _)
    | (with_reducible exact LeO.refl _)
    | (with_reducible exact LeO.none _)
    | (with_reducible refine LeO.ite ?_ ?_)
    | (with_reducible refine LeO.bind ?_ (fun _ => ?_))
    | exact ih0 _ _ _ _ _
    | exact ih1 _ _ _ _
    | exact ih2 _ _ _ _ _
    | exact ih3 _ _ _ _
    | exact ih4 _ _ _ _ _
    | exact ih5 _ _ _ _
    | exact ih6 _ _ _ _ _
    | exact ih7 _ _ _ _
    | exact ih8 _ _ _ _
    | exact ih9 _ _ _
    | exact ih10 _ _ _
    | exact LeO.none _
    | refine LeO.ite ?_ ?_
    | refine LeO.bind ?_ (fun _ => ?_)
  · intro y0 y1 y2
    unfold partitaref06_Rune.l0
    repeat' first
    | (with_reducible exact ih0 _ _ _ _ _)
    | (with_reducible exact ih1 _ _ _ _)
    | (with_reducible exact ih2 _ _ _ _ _)
    | (with_reducible exact ih3 _ _ _ _)
    | (with_reducible exact ih4 _ _ _ _ _)
    | (with_reducible exact ih5 _ _ _ _)
    | (with_reducible exact ih6 _ _ _ _ _)
    | (with_reducible exact ih7 _ _ _ _)
    | (with_reducible exact ih8 _ _ _ _)
    | (with_reducible exact ih9 _ _ _)
    | (with_reducible exact ih10 _ _ _)
    | (with_reducible exact LeO.refl _)
    | (with_reducible exact LeO.none _)
    | (with_reducible refine LeO.ite ?_ ?_)
    | (with_reducible refine LeO.bind ?_ (fun _ => ?_))
    | exact ih0 _ _ _ _ _
    | exact ih1 _ _ _ _
    | exact ih2 _ _ _ _ _
    | exact ih3 _ _ _ _
    | exact ih4 _ _ _ _ _
    | exact ih5 _ _ _ _
    | exact ih6 _ _ _ _ _
    | exact ih7 _ _ _ _
    | exact ih8 _ _ _ _
    | exact ih9 _ _ _
    | exact ih10 _ _ _
    | exact LeO.none _
    | refine LeO.ite ?_ ?_
    | refine LeO.bind ?_ (fun _ => ?_)
theorem partitaref06_Rune.mono : ∀ a0 k, LeO (partitaref06_Rune.f k a0) (partitaref06_Rune.f (k + 1) a0) := by
 intro a0 k
 obtain ⟨ih0, ih1, ih2, ih3, ih4, ih5, ih6, ih7, ih8, ih9, ih10⟩ := partitaref06_Rune.mono_l k
 unfold partitaref06_Rune.f
 repeat' first
  | (with_reducible exact ih0 _ _ _ _ _)
  | (with_reducible exact ih1 _ _ _ _)
  | (with_reducible exact ih2 _ _ _ _ _)
  | (with_reducible exact ih3 _ _ _ _)
  | (with_reducible exact ih4 _ _ _ _ _)
  | (with_reducible exact ih5 _ _ _ _)
  | (with_reducible exact ih6 _ _ _ _ _)
  | (with_reducible exact ih7 _ _ _ _)
  | (with_reducible exact ih8 _ _ _ _)
  | (with_reducible exact ih9 _ _ _)
  | (with_reducible exact ih10 _ _ _)
  | (with_reducible exact LeO.refl _)
  | (with_reducible exact LeO.none _)
  | (with_reducible refine LeO.ite ?_ ?_)
  | (with_reducible refine LeO.bind ?_ (fun _ => ?_))
  | exact ih0 _ _ _ _ _
  | exact ih1 _ _ _ _
  | exact ih2 _ _ _ _ _
  | exact ih3 _ _ _ _
  | exact ih4 _ _ _ _ _
  | exact ih5 _ _ _ _
  | exact ih6 _ _ _ _ _
  | exact ih7 _ _ _ _
  | exact ih8 _ _ _ _
  | exact ih9 _ _ _
  | exact ih10 _ _ _
  | exact LeO.none _
  | refine LeO.ite ?_ ?_
  | refine LeO.bind ?_ (fun _ => ?_)
set_option maxHeartbeats 8000000 in
set_option maxRecDepth 100000 in
theorem partitaref06_Rune.calls (k : Nat) (a0 : ByteArray) (r : Int) (w : World) (h : partitaref06_Rune.f k a0 = some r) :
 Calls Tryd.prog 33 #[.string a0] w fun e w' => e = .returned (.int .i64 r) ∧ Drawn0 w w' := by
 have H : (if (a0.size : Int) = 0 then (some 0) else (if 0 < (a0.size : Int) then (if (wrap64 (bt a0 0)) < 128 then (some 1) else (if (wrap64 (bt a0 0)) ≥ 194 then (partitaref06_Rune.j0 k a0 (wrap64 (bt a0 0)) 0 128 (decide ((wrap64 (bt a0 0)) ≤ 223))) else (partitaref06_Rune.j0 k a0 (wrap64 (bt a0 0)) 0 128 false))) else (none))) = some r := h
 clear h
 by_cases c2 : (a0.size : Int) = 0
 · rw [if_pos c2] at H
   have c2b0 : ((a0.size : Int) == 0) = true := beq_iff_eq.mpr c2
   have c2b1 : ((a0.size : Int) != 0) = false := bne_eq_false_iff_eq.mpr c2
   clear c2
   obtain rfl := Option.some.inj H
   go_enter Tryd.func33, Tryd.ntmps33
   go_wp2
   go_ret
   exact ⟨by first | rfl | (simp; done) | (simp [*]; done), by repeat (first | exact Drawn0.refl _ | apply Drawn0.step)⟩
 · rw [if_neg c2] at H
   have c2b0 : ((a0.size : Int) == 0) = false := beq_eq_false_iff_ne.mpr c2
   have c2b1 : ((a0.size : Int) != 0) = true := bne_iff_ne.mpr c2
   by_cases c3 : 0 < (a0.size : Int)
   · rw [if_pos c3] at H
     have c3b0 : decide (0 < (a0.size : Int)) = true := decide_eq_true c3
     have c3b1 : decide (0 < a0.size) = true := decide_eq_true (by omega)
     clear c3
     by_cases c5 : (wrap64 (bt a0 0)) < 128
     · rw [if_pos c5] at H
       have c5b0 : decide ((wrap64 (bt a0 0)) < 128) = true := decide_eq_true c5
       clear c5
       obtain rfl := Option.some.inj H
       have p4 : 0 ≤ (0 : Int) := (by omega)
       have q4 : 0 < a0.size := (by have : (0 : Int) < (a0.size : Int) := of_decide_eq_true (by first | (with_reducible assumption) | assumption); omega)
       have hx4 : ∀ h : 0 < a0.size, ((a0[0]'h).toNat : Int) = bt a0 0 := bt_at a0 0
       clear p4
       have qi4 : (0 < (a0.size : Int)) = True := eq_true (of_decide_eq_true (by first | (with_reducible assumption) | assumption))
       replace q4 := eq_true q4
       go_enter Tryd.func33, Tryd.ntmps33
       go_wp2
       go_ret
       exact ⟨by first | rfl | (simp; done) | (simp [*]; done), by repeat (first | exact Drawn0.refl _ | apply Drawn0.step)⟩
     · rw [if_neg c5] at H
       have c5b0 : decide ((wrap64 (bt a0 0)) < 128) = false := decide_eq_false c5
       clear c5
       have HC6 := Aside0.mk H
       clear H
       have p4 : 0 ≤ (0 : Int) := (by omega)
       have q4 : 0 < a0.size := (by have : (0 : Int) < (a0.size : Int) := of_decide_eq_true (by first | (with_reducible assumption) | assumption); omega)
       have hx4 : ∀ h : 0 < a0.size, ((a0[0]'h).toNat : Int) = bt a0 0 := bt_at a0 0
       clear p4
       have qi4 : (0 < (a0.size : Int)) = True := eq_true (of_decide_eq_true (by first | (with_reducible assumption) | assumption))
       replace q4 := eq_true q4
       go_enter Tryd.func33, Tryd.ntmps33
       go_upto_region 8 with (fail)
       go_cut [21] (fun v21 wc => ∃ (kq : Nat) (x21_5 : Bool), v21 = .bool x21_5 ∧ Aside0 (partitaref06_Rune.j0 kq a0 (wrap64 (bt a0 0)) 0 128 x21_5 = some r) ∧ Aside0 (kq ≤ k) ∧ Drawn0 w wc)
       case first =>
        have H := HC6.out
        clear HC6
        by_cases c7 : (wrap64 (bt a0 0)) ≥ 194
        · rw [if_pos c7] at H
          have c7b0 : decide (194 ≤ (wrap64 (bt a0 0))) = true := decide_eq_true c7
          clear c7
          (first | rw [c7b0] | (simp only [i64_w, i32_w]; rw [c7b0]) | skip)
          have H' := Aside0.mk H
          clear H
          go_wp2
          go_meet
          case rel => exact ⟨_, (decide ((wrap64 (bt a0 0)) ≤ 223)), (by first | rfl | (simp; done) | (simp [*]; done) | (simp [wrap64]; done)), H', ⟨by first | omega | exact Nat.le_refl _⟩, by repeat (first | exact Drawn0.refl _ | apply Drawn0.step)⟩
        · rw [if_neg c7] at H
          have c7b0 : decide (194 ≤ (wrap64 (bt a0 0))) = false := decide_eq_false c7
          clear c7
          (first | rw [c7b0] | (simp only [i64_w, i32_w]; rw [c7b0]) | skip)
          have H' := Aside0.mk H
          clear H
          go_wp2
          go_meet
          case rel => exact ⟨_, (false), (by first | rfl | (simp; done) | (simp [*]; done) | (simp [wrap64]; done)), H', ⟨by first | omega | exact Nat.le_refl _⟩, by repeat (first | exact Drawn0.refl _ | apply Drawn0.step)⟩
       case rest =>
        clear HC6
        try clear c2
        try clear c2b0
        try clear c2b1
        try clear p2
        try clear c3
        try clear c3b0
        try clear c3b1
        try clear p4
        try clear q4
        try clear hx4
        try clear qi4
        try clear c5
        try clear c5b0
        try clear p6
        try clear c7
        try clear c7b0
        try clear p4
        try clear q4
        obtain ⟨kq, x21_5, rfl, HA, HJ5, ⟨mc5, rfl⟩⟩ := hcut
        cases kq with
        | zero => exact absurd HA.out (by simp [partitaref06_Rune.j0])
        | succ kj5 =>
         have H := HA.out
         clear HA
         simp only [partitaref06_Rune.j0] at H
         have HC8 := Aside0.mk H
         clear H
         go_upto_if 21 with (fail)
         go_cut [4] (fun v4 wc => ∃ (kq : Nat) (x4_7 : Int), v4 = .int .i64 x4_7 ∧ Aside0 (partitaref06_Rune.j1 kq a0 (wrap64 (bt a0 0)) x4_7 128 = some r) ∧ Aside0 (kq ≤ kj5) ∧ Drawn0 w wc)
         case first =>
          have H := HC8.out
          clear HC8
          by_cases c9 : x21_5 = true
          · subst c9
            have H1 : (partitaref06_Rune.j1 kj5 a0 (wrap64 (bt a0 0)) 2 128) = some r := by rw [if_pos rfl] at H; exact H
            clear H
            have H := H1
            clear H1
            have H' := Aside0.mk H
            clear H
            go_wp2
            go_meet
            case rel => exact ⟨_, (2), (by first | rfl | (simp; done) | (simp [*]; done) | (simp [wrap64]; done)), H', ⟨by have := HJ5.out; first | omega | exact Nat.le_refl _⟩, by repeat (first | exact Drawn0.refl _ | apply Drawn0.step)⟩
          · replace c9 := Bool.eq_false_iff.mpr c9
            subst c9
            have H1 : (partitaref06_Rune.j1 kj5 a0 (wrap64 (bt a0 0)) 0 128) = some r := by rw [if_neg (show ¬ (false = true) by decide)] at H; exact H
            clear H
            have H := H1
            clear H1
            have H' := Aside0.mk H
            clear H
            go_wp2
            go_meet
            case rel => exact ⟨_, (0), (by first | rfl | (simp; done) | (simp [*]; done) | (simp [wrap64]; done)), H', ⟨by have := HJ5.out; first | omega | exact Nat.le_refl _⟩, by repeat (first | exact Drawn0.refl _ | apply Drawn0.step)⟩
         case rest =>
          clear HC8
          try clear c2
          try clear c2b0
          try clear c2b1
          try clear p2
          try clear c3
          try clear c3b0
          try clear c3b1
          try clear p4
          try clear q4
          try clear hx4
          try clear qi4
          try clear c5
          try clear c5b0
          try clear p6
          try clear c7
          try clear c7b0
          try clear c9
          try clear p2
          try clear p4
          try clear p6
          try clear q4
          obtain ⟨kq, x4_7, rfl, HA, HJ7, ⟨mc7, rfl⟩⟩ := hcut
          cases kq with
          | zero => exact absurd HA.out (by simp [partitaref06_Rune.j1])
          | succ kj7 =>
           have H := HA.out
           clear HA
           simp only [partitaref06_Rune.j1] at H
           have HC10 := Aside0.mk H
           clear H
           go_upto_region 10 with (fail)
           go_cut [27] (fun v27 wc => ∃ (kq : Nat) (x27_9 : Bool), v27 = .bool x27_9 ∧ Aside0 (partitaref06_Rune.j2 kq a0 (wrap64 (bt a0 0)) x4_7 128 x27_9 = some r) ∧ Aside0 (kq ≤ kj7) ∧ Drawn0 w wc)
           case first =>
            have H := HC10.out
            clear HC10
            by_cases c11 : (wrap64 (bt a0 0)) ≥ 224
            · rw [if_pos c11] at H
              have c11b0 : decide (224 ≤ (wrap64 (bt a0 0))) = true := decide_eq_true c11
              clear c11
              (first | rw [c11b0] | (simp only [i64_w, i32_w]; rw [c11b0]) | skip)
              have H' := Aside0.mk H
              clear H
              go_wp2
              go_meet
              case rel => exact ⟨_, (decide ((wrap64 (bt a0 0)) ≤ 239)), (by first | rfl | (simp; done) | (simp [*]; done) | (simp [wrap64]; done)), H', ⟨by have := HJ5.out; have := HJ7.out; first | omega | exact Nat.le_refl _⟩, by repeat (first | exact Drawn0.refl _ | apply Drawn0.step)⟩
            · rw [if_neg c11] at H
              have c11b0 : decide (224 ≤ (wrap64 (bt a0 0))) = false := decide_eq_false c11
              clear c11
              (first | rw [c11b0] | (simp only [i64_w, i32_w]; rw [c11b0]) | skip)
              have H' := Aside0.mk H
              clear H
              go_wp2
              go_meet
              case rel => exact ⟨_, (false), (by first | rfl | (simp; done) | (simp [*]; done) | (simp [wrap64]; done)), H', ⟨by have := HJ5.out; have := HJ7.out; first | omega | exact Nat.le_refl _⟩, by repeat (first | exact Drawn0.refl _ | apply Drawn0.step)⟩
           case rest =>
            clear HC10
            try clear c1
            try clear c2
            try clear c2b0
            try clear c2b1
            try clear p2
            try clear c3
            try clear c3b0
            try clear c3b1
            try clear p4
            try clear q4
            try clear hx4
            try clear qi4
            try clear c5
            try clear c5b0
            try clear p6
            try clear c7
            try clear c7b0
            try clear c9
            try clear c11
            try clear c11b0
            try clear p2
            try clear p4
            try clear p6
            try clear q4
            obtain ⟨kq, x27_9, rfl, HA, HJ9, ⟨mc9, rfl⟩⟩ := hcut
            cases kq with
            | zero => exact absurd HA.out (by simp [partitaref06_Rune.j2])
            | succ kj9 =>
             have H := HA.out
             clear HA
             simp only [partitaref06_Rune.j2] at H
             have HC12 := Aside0.mk H
             clear H
             go_upto_if 27 with (fail)
             go_cut [4] (fun v4 wc => ∃ (kq : Nat) (x4_11 : Int), v4 = .int .i64 x4_11 ∧ Aside0 (partitaref06_Rune.j3 kq a0 (wrap64 (bt a0 0)) x4_11 128 = some r) ∧ Aside0 (kq ≤ kj9) ∧ Drawn0 w wc)
             case first =>
              have H := HC12.out
              clear HC12
              by_cases c13 : x27_9 = true
              · subst c13
                have H1 : (partitaref06_Rune.j3 kj9 a0 (wrap64 (bt a0 0)) 3 128) = some r := by rw [if_pos rfl] at H; exact H
                clear H
                have H := H1
                clear H1
                have H' := Aside0.mk H
                clear H
                go_wp2
                go_meet
                case rel => exact ⟨_, (3), (by first | rfl | (simp; done) | (simp [*]; done) | (simp [wrap64]; done)), H', ⟨by have := HJ5.out; have := HJ7.out; have := HJ9.out; first | omega | exact Nat.le_refl _⟩, by repeat (first | exact Drawn0.refl _ | apply Drawn0.step)⟩
              · replace c13 := Bool.eq_false_iff.mpr c13
                subst c13
                have H1 : (partitaref06_Rune.j3 kj9 a0 (wrap64 (bt a0 0)) x4_7 128) = some r := by rw [if_neg (show ¬ (false = true) by decide)] at H; exact H
                clear H
                have H := H1
                clear H1
                have H' := Aside0.mk H
                clear H
                go_wp2
                go_meet
                case rel => exact ⟨_, (x4_7), (by first | rfl | (simp; done) | (simp [*]; done) | (simp [wrap64]; done)), H', ⟨by have := HJ5.out; have := HJ7.out; have := HJ9.out; first | omega | exact Nat.le_refl _⟩, by repeat (first | exact Drawn0.refl _ | apply Drawn0.step)⟩
             case rest =>
              clear HC12
              try clear c1
              try clear c2
              try clear c2b0
              try clear c2b1
              try clear p2
              try clear c3
              try clear c3b0
              try clear c3b1
              try clear p4
              try clear q4
              try clear hx4
              try clear qi4
              try clear c5
              try clear c5b0
              try clear p6
              try clear c7
              try clear c7b0
              try clear c9
              try clear c11
              try clear c11b0
              try clear c13
              try clear p2
              try clear p4
              try clear p6
              try clear q4
              obtain ⟨kq, x4_11, rfl, HA, HJ11, ⟨mc11, rfl⟩⟩ := hcut
              cases kq with
              | zero => exact absurd HA.out (by simp [partitaref06_Rune.j3])
              | succ kj11 =>
               have H := HA.out
               clear HA
               simp only [partitaref06_Rune.j3] at H
               have HC14 := Aside0.mk H
               clear H
               go_upto_region 12 with (fail)
               go_cut [33] (fun v33 wc => ∃ (kq : Nat) (x33_13 : Bool), v33 = .bool x33_13 ∧ Aside0 (partitaref06_Rune.j4 kq a0 (wrap64 (bt a0 0)) x4_11 128 x33_13 = some r) ∧ Aside0 (kq ≤ kj11) ∧ Drawn0 w wc)
               case first =>
                have H := HC14.out
                clear HC14
                by_cases c15 : (wrap64 (bt a0 0)) ≥ 240
                · rw [if_pos c15] at H
                  have c15b0 : decide (240 ≤ (wrap64 (bt a0 0))) = true := decide_eq_true c15
                  clear c15
                  (first | rw [c15b0] | (simp only [i64_w, i32_w]; rw [c15b0]) | skip)
                  have H' := Aside0.mk H
                  clear H
                  go_wp2
                  go_meet
                  case rel => exact ⟨_, (decide ((wrap64 (bt a0 0)) ≤ 244)), (by first | rfl | (simp; done) | (simp [*]; done) | (simp [wrap64]; done)), H', ⟨by have := HJ5.out; have := HJ7.out; have := HJ9.out; have := HJ11.out; first | omega | exact Nat.le_refl _⟩, by repeat (first | exact Drawn0.refl _ | apply Drawn0.step)⟩
                · rw [if_neg c15] at H
                  have c15b0 : decide (240 ≤ (wrap64 (bt a0 0))) = false := decide_eq_false c15
                  clear c15
                  (first | rw [c15b0] | (simp only [i64_w, i32_w]; rw [c15b0]) | skip)
                  have H' := Aside0.mk H
                  clear H
                  go_wp2
                  go_meet
                  case rel => exact ⟨_, (false), (by first | rfl | (simp; done) | (simp [*]; done) | (simp [wrap64]; done)), H', ⟨by have := HJ5.out; have := HJ7.out; have := HJ9.out; have := HJ11.out; first | omega | exact Nat.le_refl _⟩, by repeat (first | exact Drawn0.refl _ | apply Drawn0.step)⟩
               case rest =>
                clear HC14
                try clear c1
                try clear c2
                try clear c2b0
                try clear c2b1
                try clear p2
                try clear c3
                try clear c3b0
                try clear c3b1
                try clear p4
                try clear q4
                try clear hx4
                try clear qi4
                try clear c5
                try clear c5b0
                try clear p6
                try clear c7
                try clear c7b0
                try clear c9
                try clear c11
                try clear c11b0
                try clear c13
                try clear c15
                try clear c15b0
                try clear p2
                try clear p4
                try clear p6
                try clear q4
                obtain ⟨kq, x33_13, rfl, HA, HJ13, ⟨mc13, rfl⟩⟩ := hcut
                cases kq with
                | zero => exact absurd HA.out (by simp [partitaref06_Rune.j4])
                | succ kj13 =>
                 have H := HA.out
                 clear HA
                 simp only [partitaref06_Rune.j4] at H
                 have HC16 := Aside0.mk H
                 clear H
                 go_upto_if 33 with (fail)
                 go_cut [4] (fun v4 wc => ∃ (kq : Nat) (x4_15 : Int), v4 = .int .i64 x4_15 ∧ Aside0 (partitaref06_Rune.j5 kq a0 (wrap64 (bt a0 0)) x4_15 128 = some r) ∧ Aside0 (kq ≤ kj13) ∧ Drawn0 w wc)
                 case first =>
                  have H := HC16.out
                  clear HC16
                  by_cases c17 : x33_13 = true
                  · subst c17
                    have H1 : (partitaref06_Rune.j5 kj13 a0 (wrap64 (bt a0 0)) 4 128) = some r := by rw [if_pos rfl] at H; exact H
                    clear H
                    have H := H1
                    clear H1
                    have H' := Aside0.mk H
                    clear H
                    go_wp2
                    go_meet
                    case rel => exact ⟨_, (4), (by first | rfl | (simp; done) | (simp [*]; done) | (simp [wrap64]; done)), H', ⟨by have := HJ5.out; have := HJ7.out; have := HJ9.out; have := HJ11.out; have := HJ13.out; first | omega | exact Nat.le_refl _⟩, by repeat (first | exact Drawn0.refl _ | apply Drawn0.step)⟩
                  · replace c17 := Bool.eq_false_iff.mpr c17
                    subst c17
                    have H1 : (partitaref06_Rune.j5 kj13 a0 (wrap64 (bt a0 0)) x4_11 128) = some r := by rw [if_neg (show ¬ (false = true) by decide)] at H; exact H
                    clear H
                    have H := H1
                    clear H1
                    have H' := Aside0.mk H
                    clear H
                    go_wp2
                    go_meet
                    case rel => exact ⟨_, (x4_11), (by first | rfl | (simp; done) | (simp [*]; done) | (simp [wrap64]; done)), H', ⟨by have := HJ5.out; have := HJ7.out; have := HJ9.out; have := HJ11.out; have := HJ13.out; first | omega | exact Nat.le_refl _⟩, by repeat (first | exact Drawn0.refl _ | apply Drawn0.step)⟩
                 case rest =>
                  clear HC16
                  try clear c1
                  try clear c2
                  try clear c2b0
                  try clear c2b1
                  try clear p2
                  try clear c3
                  try clear c3b0
                  try clear c3b1
                  try clear p4
                  try clear q4
                  try clear hx4
                  try clear qi4
                  try clear c5
                  try clear c5b0
                  try clear p6
                  try clear c7
                  try clear c7b0
                  try clear c9
                  try clear c11
                  try clear c11b0
                  try clear c13
                  try clear c15
                  try clear c15b0
                  try clear c17
                  try clear p2
                  try clear p4
                  try clear p6
                  try clear q4
                  obtain ⟨kq, x4_15, rfl, HA, HJ15, ⟨mc15, rfl⟩⟩ := hcut
                  cases kq with
                  | zero => exact absurd HA.out (by simp [partitaref06_Rune.j5])
                  | succ kj15 =>
                   have H := HA.out
                   clear HA
                   simp only [partitaref06_Rune.j5] at H
                   have HC18 := Aside0.mk H
                   clear H
                   go_upto_region 14 with (fail)
                   go_cut [41] (fun v41 wc => ∃ (kq : Nat) (x41_17 : Bool), v41 = .bool x41_17 ∧ Aside0 (partitaref06_Rune.j6 kq a0 (wrap64 (bt a0 0)) x4_15 128 x41_17 = some r) ∧ Aside0 (kq ≤ kj15) ∧ Drawn0 w wc)
                   case first =>
                    have H := HC18.out
                    clear HC18
                    by_cases c19 : x4_15 = 0
                    · rw [if_pos c19] at H
                      have c19b0 : (x4_15 == 0) = true := beq_iff_eq.mpr c19
                      have c19b1 : (x4_15 != 0) = false := bne_eq_false_iff_eq.mpr c19
                      clear c19
                      (first | rw [c19b0] | (simp only [i64_w, i32_w]; rw [c19b0]) | skip)
                      have H' := Aside0.mk H
                      clear H
                      go_wp2
                      go_meet
                      case rel => exact ⟨_, (true), (by first | rfl | (simp; done) | (simp [*]; done) | (simp [wrap64]; done)), H', ⟨by have := HJ5.out; have := HJ7.out; have := HJ9.out; have := HJ11.out; have := HJ13.out; have := HJ15.out; first | omega | exact Nat.le_refl _⟩, by repeat (first | exact Drawn0.refl _ | apply Drawn0.step)⟩
                    · rw [if_neg c19] at H
                      have c19b0 : (x4_15 == 0) = false := beq_eq_false_iff_ne.mpr c19
                      have c19b1 : (x4_15 != 0) = true := bne_iff_ne.mpr c19
                      (first | rw [c19b0] | (simp only [i64_w, i32_w]; rw [c19b0]) | skip)
                      have H' := Aside0.mk H
                      clear H
                      go_wp2
                      go_meet
                      case rel => exact ⟨_, (decide ((a0.size : Int) < x4_15)), (by first | rfl | (simp; done) | (simp [*]; done) | (simp [wrap64]; done)), H', ⟨by have := HJ5.out; have := HJ7.out; have := HJ9.out; have := HJ11.out; have := HJ13.out; have := HJ15.out; first | omega | exact Nat.le_refl _⟩, by repeat (first | exact Drawn0.refl _ | apply Drawn0.step)⟩
                   case rest =>
                    clear HC18
                    try clear c1
                    try clear c2
                    try clear c2b0
                    try clear c2b1
                    try clear p2
                    try clear c3
                    try clear c3b0
                    try clear c3b1
                    try clear p4
                    try clear q4
                    try clear hx4
                    try clear qi4
                    try clear c5
                    try clear c5b0
                    try clear p6
                    try clear c7
                    try clear c7b0
                    try clear c9
                    try clear c11
                    try clear c11b0
                    try clear c13
                    try clear c15
                    try clear c15b0
                    try clear c17
                    try clear c19
                    try clear c19b0
                    try clear c19b1
                    try clear p2
                    try clear p4
                    try clear p6
                    try clear q4
                    obtain ⟨kq, x41_17, rfl, HA, HJ17, ⟨mc17, rfl⟩⟩ := hcut
                    cases kq with
                    | zero => exact absurd HA.out (by simp [partitaref06_Rune.j6])
                    | succ kj17 =>
                     have H := HA.out
                     clear HA
                     simp only [partitaref06_Rune.j6] at H
                     by_cases c20 : x41_17 = true
                     · subst c20
                       have H1 : (some 0) = some r := by rw [if_pos rfl] at H; exact H
                       clear H
                       have H := H1
                       clear H1
                       obtain rfl := Option.some.inj H
                       go_wp2
                       go_ret
                       exact ⟨by first | rfl | (simp; done) | (simp [*]; done), by repeat (first | exact Drawn0.refl _ | apply Drawn0.step)⟩
                     · replace c20 := Bool.eq_false_iff.mpr c20
                       subst c20
                       have H1 : (if (wrap64 (bt a0 0)) = 224 then (partitaref06_Rune.j7 kj17 a0 (wrap64 (bt a0 0)) x4_15 160) else (partitaref06_Rune.j7 kj17 a0 (wrap64 (bt a0 0)) x4_15 128)) = some r := by rw [if_neg (show ¬ (false = true) by decide)] at H; exact H
                       clear H
                       have H := H1
                       clear H1
                       have HC21 := Aside0.mk H
                       clear H
                       go_upto_if 43 with (fail)
                       go_cut [5] (fun v5 wc => ∃ (kq : Nat) (x5_20 : Int), v5 = .int .i64 x5_20 ∧ Aside0 (partitaref06_Rune.j7 kq a0 (wrap64 (bt a0 0)) x4_15 x5_20 = some r) ∧ Aside0 (kq ≤ kj17) ∧ Drawn0 w wc)
                       case first =>
                        have H := HC21.out
                        clear HC21
                        by_cases c22 : (wrap64 (bt a0 0)) = 224
                        · rw [if_pos c22] at H
                          have c22b0 : ((wrap64 (bt a0 0)) == 224) = true := beq_iff_eq.mpr c22
                          have c22b1 : ((wrap64 (bt a0 0)) != 224) = false := bne_eq_false_iff_eq.mpr c22
                          clear c22
                          (first | rw [c22b0] | (simp only [i64_w, i32_w]; rw [c22b0]) | skip)
                          have H' := Aside0.mk H
                          clear H
                          go_wp2
                          go_meet
                          case rel => exact ⟨_, (160), (by first | rfl | (simp; done) | (simp [*]; done) | (simp [wrap64]; done)), H', ⟨by have := HJ5.out; have := HJ7.out; have := HJ9.out; have := HJ11.out; have := HJ13.out; have := HJ15.out; have := HJ17.out; first | omega | exact Nat.le_refl _⟩, by repeat (first | exact Drawn0.refl _ | apply Drawn0.step)⟩
                        · rw [if_neg c22] at H
                          have c22b0 : ((wrap64 (bt a0 0)) == 224) = false := beq_eq_false_iff_ne.mpr c22
                          have c22b1 : ((wrap64 (bt a0 0)) != 224) = true := bne_iff_ne.mpr c22
                          (first | rw [c22b0] | (simp only [i64_w, i32_w]; rw [c22b0]) | skip)
                          have H' := Aside0.mk H
                          clear H
                          go_wp2
                          go_meet
                          case rel => exact ⟨_, (128), (by first | rfl | (simp; done) | (simp [*]; done) | (simp [wrap64]; done)), H', ⟨by have := HJ5.out; have := HJ7.out; have := HJ9.out; have := HJ11.out; have := HJ13.out; have := HJ15.out; have := HJ17.out; first | omega | exact Nat.le_refl _⟩, by repeat (first | exact Drawn0.refl _ | apply Drawn0.step)⟩
                       case rest =>
                        clear HC21
                        try clear c1
                        try clear c2
                        try clear c2b0
                        try clear c2b1
                        try clear p2
                        try clear c3
                        try clear c3b0
                        try clear c3b1
                        try clear p4
                        try clear q4
                        try clear hx4
                        try clear qi4
                        try clear c5
                        try clear c5b0
                        try clear p6
                        try clear c7
                        try clear c7b0
                        try clear c9
                        try clear c11
                        try clear c11b0
                        try clear c13
                        try clear c15
                        try clear c15b0
                        try clear c17
                        try clear c19
                        try clear c19b0
                        try clear c19b1
                        try clear c20
                        try clear c22
                        try clear c22b0
                        try clear c22b1
                        try clear p2
                        try clear p4
                        try clear p6
                        try clear q4
                        obtain ⟨kq, x5_20, rfl, HA, HJ20, ⟨mc20, rfl⟩⟩ := hcut
                        cases kq with
                        | zero => exact absurd HA.out (by simp [partitaref06_Rune.j7])
                        | succ kj20 =>
                         have H := HA.out
                         clear HA
                         simp only [partitaref06_Rune.j7] at H
                         have HC23 := Aside0.mk H
                         clear H
                         go_upto_if 45 with (fail)
                         go_cut [5] (fun v5 wc => ∃ (kq : Nat) (x5_22 : Int), v5 = .int .i64 x5_22 ∧ Aside0 (partitaref06_Rune.j8 kq a0 (wrap64 (bt a0 0)) x4_15 x5_22 = some r) ∧ Aside0 (kq ≤ kj20) ∧ Drawn0 w wc)
                         case first =>
                          have H := HC23.out
                          clear HC23
                          by_cases c24 : (wrap64 (bt a0 0)) = 240
                          · rw [if_pos c24] at H
                            have c24b0 : ((wrap64 (bt a0 0)) == 240) = true := beq_iff_eq.mpr c24
                            have c24b1 : ((wrap64 (bt a0 0)) != 240) = false := bne_eq_false_iff_eq.mpr c24
                            clear c24
                            (first | rw [c24b0] | (simp only [i64_w, i32_w]; rw [c24b0]) | skip)
                            have H' := Aside0.mk H
                            clear H
                            go_wp2
                            go_meet
                            case rel => exact ⟨_, (144), (by first | rfl | (simp; done) | (simp [*]; done) | (simp [wrap64]; done)), H', ⟨by have := HJ5.out; have := HJ7.out; have := HJ9.out; have := HJ11.out; have := HJ13.out; have := HJ15.out; have := HJ17.out; have := HJ20.out; first | omega | exact Nat.le_refl _⟩, by repeat (first | exact Drawn0.refl _ | apply Drawn0.step)⟩
                          · rw [if_neg c24] at H
                            have c24b0 : ((wrap64 (bt a0 0)) == 240) = false := beq_eq_false_iff_ne.mpr c24
                            have c24b1 : ((wrap64 (bt a0 0)) != 240) = true := bne_iff_ne.mpr c24
                            (first | rw [c24b0] | (simp only [i64_w, i32_w]; rw [c24b0]) | skip)
                            have H' := Aside0.mk H
                            clear H
                            go_wp2
                            go_meet
                            case rel => exact ⟨_, (x5_20), (by first | rfl | (simp; done) | (simp [*]; done) | (simp [wrap64]; done)), H', ⟨by have := HJ5.out; have := HJ7.out; have := HJ9.out; have := HJ11.out; have := HJ13.out; have := HJ15.out; have := HJ17.out; have := HJ20.out; first | omega | exact Nat.le_refl _⟩, by repeat (first | exact Drawn0.refl _ | apply Drawn0.step)⟩
                         case rest =>
                          clear HC23
                          try clear c1
                          try clear c2
                          try clear c2b0
                          try clear c2b1
                          try clear p2
                          try clear c3
                          try clear c3b0
                          try clear c3b1
                          try clear p4
                          try clear q4
                          try clear hx4
                          try clear qi4
                          try clear c5
                          try clear c5b0
                          try clear p6
                          try clear c7
                          try clear c7b0
                          try clear c9
                          try clear c11
                          try clear c11b0
                          try clear c13
                          try clear c15
                          try clear c15b0
                          try clear c17
                          try clear c19
                          try clear c19b0
                          try clear c19b1
                          try clear c20
                          try clear c22
                          try clear c22b0
                          try clear c22b1
                          try clear c24
                          try clear c24b0
                          try clear c24b1
                          try clear p2
                          try clear p4
                          try clear p6
                          try clear q4
                          obtain ⟨kq, x5_22, rfl, HA, HJ22, ⟨mc22, rfl⟩⟩ := hcut
                          cases kq with
                          | zero => exact absurd HA.out (by simp [partitaref06_Rune.j8])
                          | succ kj22 =>
                           have H := HA.out
                           clear HA
                           simp only [partitaref06_Rune.j8] at H
                           by_cases c25 : 1 < (a0.size : Int)
                           · rw [if_pos c25] at H
                             have c25b0 : decide (1 < (a0.size : Int)) = true := decide_eq_true c25
                             have c25b1 : decide (1 < a0.size) = true := decide_eq_true (by omega)
                             clear c25
                             have HC27 := Aside0.mk H
                             clear H
                             have p26 : 0 ≤ (1 : Int) := (by omega)
                             have q26 : 1 < a0.size := (by have : (1 : Int) < (a0.size : Int) := of_decide_eq_true (by first | (with_reducible assumption) | assumption); omega)
                             have hx26 : ∀ h : 1 < a0.size, ((a0[1]'h).toNat : Int) = bt a0 1 := bt_at a0 1
                             clear p26
                             have qi26 : (1 < (a0.size : Int)) = True := eq_true (of_decide_eq_true (by first | (with_reducible assumption) | assumption))
                             replace q26 := eq_true q26
                             go_upto_region 21 with (fail)
                             go_cut [71] (fun v71 wc => ∃ (kq : Nat) (x71_26 : Bool), v71 = .bool x71_26 ∧ Aside0 (partitaref06_Rune.j9 kq a0 x4_15 x71_26 = some r) ∧ Aside0 (kq ≤ kj22) ∧ Drawn0 w wc)
                             case first =>
                              have H := HC27.out
                              clear HC27
                              by_cases c28 : (wrap64 (bt a0 1)) < x5_22
                              · rw [if_pos c28] at H
                                have c28b0 : decide ((wrap64 (bt a0 1)) < x5_22) = true := decide_eq_true c28
                                clear c28
                                (first | rw [c28b0] | (simp only [i64_w, i32_w]; rw [c28b0]) | skip)
                                have H' := Aside0.mk H
                                clear H
                                go_wp2
                                go_meet
                                case rel => exact ⟨_, (true), (by first | rfl | (simp; done) | (simp [*]; done) | (simp [wrap64]; done)), H', ⟨by have := HJ5.out; have := HJ7.out; have := HJ9.out; have := HJ11.out; have := HJ13.out; have := HJ15.out; have := HJ17.out; have := HJ20.out; have := HJ22.out; first | omega | exact Nat.le_refl _⟩, by repeat (first | exact Drawn0.refl _ | apply Drawn0.step)⟩
                              · rw [if_neg c28] at H
                                have c28b0 : decide ((wrap64 (bt a0 1)) < x5_22) = false := decide_eq_false c28
                                clear c28
                                (first | rw [c28b0] | (simp only [i64_w, i32_w]; rw [c28b0]) | skip)
                                by_cases c29 : (wrap64 (bt a0 1)) > 191
                                · rw [if_pos c29] at H
                                  have c29b0 : decide (191 < (wrap64 (bt a0 1))) = true := decide_eq_true c29
                                  clear c29
                                  have H' := Aside0.mk H
                                  clear H
                                  go_wp2
                                  go_meet
                                  case rel => exact ⟨_, (true), (by first | rfl | (simp; done) | (simp [*]; done) | (simp [wrap64]; done)), H', ⟨by have := HJ5.out; have := HJ7.out; have := HJ9.out; have := HJ11.out; have := HJ13.out; have := HJ15.out; have := HJ17.out; have := HJ20.out; have := HJ22.out; first | omega | exact Nat.le_refl _⟩, by repeat (first | exact Drawn0.refl _ | apply Drawn0.step)⟩
                                · rw [if_neg c29] at H
                                  have c29b0 : decide (191 < (wrap64 (bt a0 1))) = false := decide_eq_false c29
                                  clear c29
                                  by_cases c30 : (wrap64 (bt a0 0)) = 237
                                  · rw [if_pos c30] at H
                                    have c30b0 : ((wrap64 (bt a0 0)) == 237) = true := beq_iff_eq.mpr c30
                                    have c30b1 : ((wrap64 (bt a0 0)) != 237) = false := bne_eq_false_iff_eq.mpr c30
                                    clear c30
                                    by_cases c31 : (wrap64 (bt a0 1)) > 159
                                    · rw [if_pos c31] at H
                                      have c31b0 : decide (159 < (wrap64 (bt a0 1))) = true := decide_eq_true c31
                                      clear c31
                                      have H' := Aside0.mk H
                                      clear H
                                      go_wp2
                                      go_meet
                                      case rel => exact ⟨_, (true), (by first | rfl | (simp; done) | (simp [*]; done) | (simp [wrap64]; done)), H', ⟨by have := HJ5.out; have := HJ7.out; have := HJ9.out; have := HJ11.out; have := HJ13.out; have := HJ15.out; have := HJ17.out; have := HJ20.out; have := HJ22.out; first | omega | exact Nat.le_refl _⟩, by repeat (first | exact Drawn0.refl _ | apply Drawn0.step)⟩
                                    · rw [if_neg c31] at H
                                      have c31b0 : decide (159 < (wrap64 (bt a0 1))) = false := decide_eq_false c31
                                      clear c31
                                      by_cases c32 : (wrap64 (bt a0 0)) = 244
                                      · rw [if_pos c32] at H
                                        have c32b0 : ((wrap64 (bt a0 0)) == 244) = true := beq_iff_eq.mpr c32
                                        have c32b1 : ((wrap64 (bt a0 0)) != 244) = false := bne_eq_false_iff_eq.mpr c32
                                        clear c32
                                        have H' := Aside0.mk H
                                        clear H
                                        go_wp2
                                        go_meet
                                        case rel => exact ⟨_, (decide ((wrap64 (bt a0 1)) > 143)), (by first | rfl | (simp; done) | (simp [*]; done) | (simp [wrap64]; done)), H', ⟨by have := HJ5.out; have := HJ7.out; have := HJ9.out; have := HJ11.out; have := HJ13.out; have := HJ15.out; have := HJ17.out; have := HJ20.out; have := HJ22.out; first | omega | exact Nat.le_refl _⟩, by repeat (first | exact Drawn0.refl _ | apply Drawn0.step)⟩
                                      · rw [if_neg c32] at H
                                        have c32b0 : ((wrap64 (bt a0 0)) == 244) = false := beq_eq_false_iff_ne.mpr c32
                                        have c32b1 : ((wrap64 (bt a0 0)) != 244) = true := bne_iff_ne.mpr c32
                                        have H' := Aside0.mk H
                                        clear H
                                        go_wp2
                                        go_meet
                                        case rel => exact ⟨_, (false), (by first | rfl | (simp; done) | (simp [*]; done) | (simp [wrap64]; done)), H', ⟨by have := HJ5.out; have := HJ7.out; have := HJ9.out; have := HJ11.out; have := HJ13.out; have := HJ15.out; have := HJ17.out; have := HJ20.out; have := HJ22.out; first | omega | exact Nat.le_refl _⟩, by repeat (first | exact Drawn0.refl _ | apply Drawn0.step)⟩
                                  · rw [if_neg c30] at H
                                    have c30b0 : ((wrap64 (bt a0 0)) == 237) = false := beq_eq_false_iff_ne.mpr c30
                                    have c30b1 : ((wrap64 (bt a0 0)) != 237) = true := bne_iff_ne.mpr c30
                                    by_cases c33 : (wrap64 (bt a0 0)) = 244
                                    · rw [if_pos c33] at H
                                      have c33b0 : ((wrap64 (bt a0 0)) == 244) = true := beq_iff_eq.mpr c33
                                      have c33b1 : ((wrap64 (bt a0 0)) != 244) = false := bne_eq_false_iff_eq.mpr c33
                                      clear c33
                                      have H' := Aside0.mk H
                                      clear H
                                      go_wp2
                                      go_meet
                                      case rel => exact ⟨_, (decide ((wrap64 (bt a0 1)) > 143)), (by first | rfl | (simp; done) | (simp [*]; done) | (simp [wrap64]; done)), H', ⟨by have := HJ5.out; have := HJ7.out; have := HJ9.out; have := HJ11.out; have := HJ13.out; have := HJ15.out; have := HJ17.out; have := HJ20.out; have := HJ22.out; first | omega | exact Nat.le_refl _⟩, by repeat (first | exact Drawn0.refl _ | apply Drawn0.step)⟩
                                    · rw [if_neg c33] at H
                                      have c33b0 : ((wrap64 (bt a0 0)) == 244) = false := beq_eq_false_iff_ne.mpr c33
                                      have c33b1 : ((wrap64 (bt a0 0)) != 244) = true := bne_iff_ne.mpr c33
                                      have H' := Aside0.mk H
                                      clear H
                                      go_wp2
                                      go_meet
                                      case rel => exact ⟨_, (false), (by first | rfl | (simp; done) | (simp [*]; done) | (simp [wrap64]; done)), H', ⟨by have := HJ5.out; have := HJ7.out; have := HJ9.out; have := HJ11.out; have := HJ13.out; have := HJ15.out; have := HJ17.out; have := HJ20.out; have := HJ22.out; first | omega | exact Nat.le_refl _⟩, by repeat (first | exact Drawn0.refl _ | apply Drawn0.step)⟩
                             case rest =>
                              clear HC27
                              try clear c1
                              try clear c2
                              try clear c2b0
                              try clear c2b1
                              try clear p2
                              try clear q2
                              try clear hx2
                              try clear qi2
                              try clear c3
                              try clear c3b0
                              try clear c3b1
                              try clear p4
                              try clear q4
                              try clear hx4
                              try clear qi4
                              try clear c5
                              try clear c5b0
                              try clear p6
                              try clear c7
                              try clear c7b0
                              try clear c9
                              try clear c11
                              try clear c11b0
                              try clear c13
                              try clear c15
                              try clear c15b0
                              try clear c17
                              try clear c19
                              try clear c19b0
                              try clear c19b1
                              try clear c20
                              try clear c22
                              try clear c22b0
                              try clear c22b1
                              try clear c24
                              try clear c24b0
                              try clear c24b1
                              try clear c25
                              try clear c25b0
                              try clear c25b1
                              try clear p26
                              try clear q26
                              try clear hx26
                              try clear qi26
                              try clear c28
                              try clear c28b0
                              try clear c29
                              try clear c29b0
                              try clear c30
                              try clear c30b0
                              try clear c30b1
                              try clear c31
                              try clear c31b0
                              try clear c32
                              try clear c32b0
                              try clear c32b1
                              try clear c33
                              try clear c33b0
                              try clear c33b1
                              try clear p2
                              try clear p26
                              try clear p4
                              try clear p6
                              try clear q26
                              try clear q4
                              obtain ⟨kq, x71_26, rfl, HA, HJ26, ⟨mc26, rfl⟩⟩ := hcut
                              cases kq with
                              | zero => exact absurd HA.out (by simp [partitaref06_Rune.j9])
                              | succ kj26 =>
                               have H := HA.out
                               clear HA
                               simp only [partitaref06_Rune.j9] at H
                               by_cases c34 : x71_26 = true
                               · subst c34
                                 have H1 : (some 0) = some r := by rw [if_pos rfl] at H; exact H
                                 clear H
                                 have H := H1
                                 clear H1
                                 obtain rfl := Option.some.inj H
                                 go_wp2
                                 go_ret
                                 exact ⟨by first | rfl | (simp; done) | (simp [*]; done), by repeat (first | exact Drawn0.refl _ | apply Drawn0.step)⟩
                               · replace c34 := Bool.eq_false_iff.mpr c34
                                 subst c34
                                 have H1 : (partitaref06_Rune.l0 kj26 a0 x4_15 2) = some r := by rw [if_neg (show ¬ (false = true) by decide)] at H; exact H
                                 clear H
                                 have H := H1
                                 clear H1
                                 have H' := Aside0.mk H
                                 clear H
                                 go_wp2
                                 go_loopg [7] kj26 (fun kq v7 w' => ∃ (x7_11 : Int), v7 = .int .i64 x7_11 ∧ Aside0 (partitaref06_Rune.l0 kq a0 x4_15 x7_11 = some r) ∧ Aside0 (kq ≤ kj26) ∧ Drawn0 w w')
                                 case atStart => exact ⟨(2), (by first | rfl | (simp; done) | (simp [*]; done) | (simp [wrap64]; done)), H', ⟨Nat.le_refl _⟩, by repeat (first | exact Drawn0.refl _ | apply Drawn0.step)⟩
                                 case round =>
                                  clear H'
                                  try clear c1
                                  try clear c2
                                  try clear c2b0
                                  try clear c2b1
                                  try clear p2
                                  try clear q2
                                  try clear hx2
                                  try clear qi2
                                  try clear c3
                                  try clear c3b0
                                  try clear c3b1
                                  try clear p4
                                  try clear q4
                                  try clear hx4
                                  try clear qi4
                                  try clear c5
                                  try clear c5b0
                                  try clear p6
                                  try clear c7
                                  try clear c7b0
                                  try clear c9
                                  try clear c11
                                  try clear c11b0
                                  try clear c13
                                  try clear c15
                                  try clear c15b0
                                  try clear c17
                                  try clear c19
                                  try clear c19b0
                                  try clear c19b1
                                  try clear c20
                                  try clear c22
                                  try clear c22b0
                                  try clear c22b1
                                  try clear c24
                                  try clear c24b0
                                  try clear c24b1
                                  try clear c25
                                  try clear c25b0
                                  try clear c25b1
                                  try clear c26
                                  try clear p26
                                  try clear q26
                                  try clear hx26
                                  try clear qi26
                                  try clear c28
                                  try clear c28b0
                                  try clear c29
                                  try clear c29b0
                                  try clear c30
                                  try clear c30b0
                                  try clear c30b1
                                  try clear c31
                                  try clear c31b0
                                  try clear c32
                                  try clear c32b0
                                  try clear c32b1
                                  try clear c33
                                  try clear c33b0
                                  try clear c33b1
                                  try clear c34
                                  try clear p2
                                  try clear p26
                                  try clear p4
                                  try clear p6
                                  try clear q2
                                  try clear q26
                                  try clear q4
                                  obtain ⟨x7_11, rfl, HA, HK11, ⟨m11, rfl⟩⟩ := hrel
                                  cases gk with
                                  | zero => exact absurd HA.out (by simp [partitaref06_Rune.l0])
                                  | succ k11 =>
                                   have H := HA.out
                                   clear HA
                                   simp only [partitaref06_Rune.l0] at H
                                   by_cases c35 : x7_11 < x4_15
                                   · rw [if_pos c35] at H
                                     have c35b0 : decide (x7_11 < x4_15) = true := decide_eq_true c35
                                     clear c35
                                     by_cases c36 : 0 ≤ x7_11
                                     · rw [if_pos c36] at H
                                       have c36b0 : decide (0 ≤ x7_11) = true := decide_eq_true c36
                                       clear c36
                                       by_cases c37 : x7_11 < (a0.size : Int)
                                       · rw [if_pos c37] at H
                                         have c37b0 : decide (x7_11 < (a0.size : Int)) = true := decide_eq_true c37
                                         clear c37
                                         by_cases c39 : (bt a0 x7_11) < 128
                                         · rw [if_pos c39] at H
                                           have c39b0 : decide ((bt a0 x7_11) < 128) = true := decide_eq_true c39
                                           clear c39
                                           obtain rfl := Option.some.inj H
                                           have p38 : 0 ≤ (x7_11 : Int) := of_decide_eq_true (by first | (with_reducible assumption) | assumption)
                                           have q38 : x7_11 < (a0.size : Int) := of_decide_eq_true (by first | (with_reducible assumption) | assumption)
                                           have hx38 := bt_at a0 x7_11
                                           replace p38 := eq_true p38
                                           replace q38 := eq_true q38
                                           go_wp2
                                           go_ret
                                           exact ⟨by first | rfl | (simp; done) | (simp [*]; done), by repeat (first | exact Drawn0.refl _ | apply Drawn0.step)⟩
                                         · rw [if_neg c39] at H
                                           have c39b0 : decide ((bt a0 x7_11) < 128) = false := decide_eq_false c39
                                           clear c39
                                           by_cases c41 : (bt a0 x7_11) > 191
                                           · rw [if_pos c41] at H
                                             have c41b0 : decide (191 < (bt a0 x7_11)) = true := decide_eq_true c41
                                             clear c41
                                             obtain rfl := Option.some.inj H
                                             have p38 : 0 ≤ (x7_11 : Int) := of_decide_eq_true (by first | (with_reducible assumption) | assumption)
                                             have q38 : x7_11 < (a0.size : Int) := of_decide_eq_true (by first | (with_reducible assumption) | assumption)
                                             have hx38 := bt_at a0 x7_11
                                             replace p38 := eq_true p38
                                             replace q38 := eq_true q38
                                             have p40 : 0 ≤ (x7_11 : Int) := of_decide_eq_true (by first | (with_reducible assumption) | assumption)
                                             have q40 : x7_11 < (a0.size : Int) := of_decide_eq_true (by first | (with_reducible assumption) | assumption)
                                             have hx40 := bt_at a0 x7_11
                                             replace p40 := eq_true p40
                                             replace q40 := eq_true q40
                                             go_wp2
                                             go_ret
                                             exact ⟨by first | rfl | (simp; done) | (simp [*]; done), by repeat (first | exact Drawn0.refl _ | apply Drawn0.step)⟩
                                           · rw [if_neg c41] at H
                                             have c41b0 : decide (191 < (bt a0 x7_11)) = false := decide_eq_false c41
                                             clear c41
                                             have H' := Aside0.mk H
                                             clear H
                                             have p38 : 0 ≤ (x7_11 : Int) := of_decide_eq_true (by first | (with_reducible assumption) | assumption)
                                             have q38 : x7_11 < (a0.size : Int) := of_decide_eq_true (by first | (with_reducible assumption) | assumption)
                                             have hx38 := bt_at a0 x7_11
                                             replace p38 := eq_true p38
                                             replace q38 := eq_true q38
                                             have p40 : 0 ≤ (x7_11 : Int) := of_decide_eq_true (by first | (with_reducible assumption) | assumption)
                                             have q40 : x7_11 < (a0.size : Int) := of_decide_eq_true (by first | (with_reducible assumption) | assumption)
                                             have hx40 := bt_at a0 x7_11
                                             replace p40 := eq_true p40
                                             replace q40 := eq_true q40
                                             go_wp2
                                             go_roundg k11
                                             case measure => have := HJ5.out; have := HJ7.out; have := HJ9.out; have := HJ11.out; have := HJ13.out; have := HJ15.out; have := HJ17.out; have := HJ20.out; have := HJ22.out; have := HJ26.out; have := HK11.out; omega
                                             case rel => exact ⟨(wrap64 (x7_11 + 1)), (by first | rfl | (simp; done) | (simp [*]; done) | (simp [wrap64]; done)), H', ⟨by have := HJ5.out; have := HJ7.out; have := HJ9.out; have := HJ11.out; have := HJ13.out; have := HJ15.out; have := HJ17.out; have := HJ20.out; have := HJ22.out; have := HJ26.out; have := HK11.out; omega⟩, by repeat (first | exact Drawn0.refl _ | apply Drawn0.step)⟩
                                       · rw [if_neg c37] at H
                                         exact absurd H (by simp)
                                     · rw [if_neg c36] at H
                                       exact absurd H (by simp)
                                   · rw [if_neg c35] at H
                                     have c35b0 : decide (x7_11 < x4_15) = false := decide_eq_false c35
                                     clear c35
                                     obtain rfl := Option.some.inj H
                                     go_wp2
                                     go_ret
                                     exact ⟨by first | rfl | (simp; done) | (simp [*]; done), by repeat (first | exact Drawn0.refl _ | apply Drawn0.step)⟩
                           · rw [if_neg c25] at H
                             exact absurd H (by simp)
   · rw [if_neg c3] at H
     exact absurd H (by simp)

end Go.Proofs.YtllccnijipgncaaDoor.Q
