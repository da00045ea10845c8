-- Written by a program of this session (myprint.py), function by function.
import Derived.Test.YtneaoicjbiebkaaDoorQ0
import Derived.Test.YtneaoicjbiebkaaDoorQ3
import Derived.Test.YtneaoicjbiebkaaDoorQ4
import Derived.Test.YtneaoicjbiebkaaDoorFew
namespace Go.Proofs.YtneaoicjbiebkaaDoor.Q
open Go.RowKit Go.Proofs.YtneaoicjbiebkaaDoorW.PrintWords Go.Proofs.YtneaoicjbiebkaaDoorW.PrintLast Go.Proofs.YtneaoicjbiebkaaDoorW.PrintMore
attribute [local go_sem] max2_int min2_int max_two min_two max_three min_three max_four min_four   -- for this text's walks alone
set_option linter.unusedVariables false
set_option linter.unusedSimpArgs false

/-! ### partitalaw25_SystemsScaled: function 7 -/
mutual
def partitalaw25_SystemsScaled.j0 : Nat → List Int → List Int → Int → Int → Bool → List (S38) → Bool → Option (Bool)
 | 0, _, _, _, _, _, _, _ => none
 | k + 1, x0, x1, x2, x3, x9, x10, x39 => if x39 = true then (if x9 = true then (some (decide ((x10.length : Int) ≤ (x0.length : Int)))) else none) else (partitalaw25_SystemsScaled.l0 k x0 x1 x2 x3 x9 x10 ([] : List Int) ([] : List Int) 0)
def partitalaw25_SystemsScaled.l0 : Nat → List Int → List Int → Int → Int → Bool → List (S38) → List Int → List Int → Int → Option (Bool)
 | 0, _, _, _, _, _, _, _, _, _ => none
 | k + 1, x0, x1, x2, x3, x9, x10, x12, x13, x14 => if x14 < (x0.length : Int) then (partitalaw25_SystemsScaled.j2 k x0 x1 x2 x3 x9 x10 x12 x13 x14 (decide (x14 < (x1.length : Int)))) else (partitalaw25_SystemsScaled.j2 k x0 x1 x2 x3 x9 x10 x12 x13 x14 false)
def partitalaw25_SystemsScaled.j2 : Nat → List Int → List Int → Int → Int → Bool → List (S38) → List Int → List Int → Int → Bool → Option (Bool)
 | 0, _, _, _, _, _, _, _, _, _, _ => none
 | k + 1, x0, x1, x2, x3, x9, x10, x12, x13, x14, x57 => if x57 = true then (if 0 ≤ x14 then (if x14 < (x1.length : Int) then (if x3 = 0 then (none) else (if (rd x1 x14) > (wrap64 ((100000 : Int) / x3)) then (some x9) else (if x14 < (x0.length : Int) then (if x12.length < 17592186044416 then (if x13.length < 17592186044416 then (partitalaw25_SystemsScaled.l0 k x0 x1 x2 x3 x9 x10 (x12 ++ [wrap64 (x3 * (rd x0 x14))]) (x13 ++ [wrap64 (x3 * (rd x1 x14))]) (wrap64 (x14 + 1))) else (none)) else (none)) else (none)))) else (none)) else (none)) else ((systems_Break.f x12 x13 (wrap64 (x3 * x2))).bind fun bt323 => (if x9 = true then (if bt323.2 = 0 then ((partitaref25_Same.f k x10 bt323.1).bind fun t327 => (some t327)) else none) else none))
end
def partitalaw25_SystemsScaled.f (k : Nat) (l0 : List Int) (l1 : List Int) (a2 : Int) (a3 : Int) : Option (Bool) := (partitalaw25_shown.f k).bind fun t301 => (if 0 ≤ (mn (l0.length : Int) 101) then (if (mn (l0.length : Int) 101) ≤ (l0.length : Int) then ((some (l0.take ((mn (l0.length : Int) 101) : Int).toNat : List Int)).bind fun y302 => (if 0 ≤ (mn (l1.length : Int) 101) then (if (mn (l1.length : Int) 101) ≤ (l1.length : Int) then ((some (l1.take ((mn (l1.length : Int) 101) : Int).toNat : List Int)).bind fun y306 => ((systems_Break.f y302 y306 a2).bind fun bt310 => (if bt310.2 = 0 then (if (mn (mx a3 1) 9) = 0 then (none) else (partitalaw25_SystemsScaled.j0 k y302 y306 a2 (mn (mx a3 1) 9) t301 bt310.1 (decide (a2 > ((100000 : Int) / (mn (mx a3 1) 9)))))) else (partitalaw25_SystemsScaled.j0 k y302 y306 a2 (mn (mx a3 1) 9) t301 bt310.1 true)))) else (none)) else (none))) else (none)) else (none))
theorem partitalaw25_SystemsScaled.mono_l : ∀ k, (∀ y0 y1 y2 y3 y4 y5 y6, LeO (partitalaw25_SystemsScaled.j0 k y0 y1 y2 y3 y4 y5 y6) (partitalaw25_SystemsScaled.j0 (k + 1) y0 y1 y2 y3 y4 y5 y6)) ∧ (∀ y0 y1 y2 y3 y4 y5 y6 y7 y8, LeO (partitalaw25_SystemsScaled.l0 k y0 y1 y2 y3 y4 y5 y6 y7 y8) (partitalaw25_SystemsScaled.l0 (k + 1) y0 y1 y2 y3 y4 y5 y6 y7 y8)) ∧ (∀ y0 y1 y2 y3 y4 y5 y6 y7 y8 y9, LeO (partitalaw25_SystemsScaled.j2 k y0 y1 y2 y3 y4 y5 y6 y7 y8 y9) (partitalaw25_SystemsScaled.j2 (k + 1) y0 y1 y2 y3 y4 y5 y6 y7 y8 y9))
 | 0 => ⟨fun _ _ _ _ _ _ _ r h => by simp [partitalaw25_SystemsScaled.j0] at h, fun _ _ _ _ _ _ _ _ _ r h => by simp [partitalaw25_SystemsScaled.l0] at h, fun _ _ _ _ _ _ _ _ _ _ r h => by simp [partitalaw25_SystemsScaled.j2] at h⟩
 | k + 1 => by
  obtain ⟨ih0, ih1, ih2⟩ := partitalaw25_SystemsScaled.mono_l k
  refine ⟨?_, ?_, ?_⟩
  · intro y0 y1 y2 y3 y4 y5 y6
    unfold partitalaw25_SystemsScaled.j0
    repeat' first
    | (with_reducible exact ih0 _ _ _ _ _ _ _)
    | (with_reducible exact ih1 _ _ _ _ _ _ _ _ _)
    | (with_reducible exact ih2 _ _ _ _ _ _ _ _ _ _)
    | (with_reducible exact partitalaw25_shown.mono _)
    | (with_reducible exact partitaref25_Same.mono _ _ _)
    | (with_reducible exact LeO.refl _)
    | (with_reducible exact LeO.none _)
    | (with_reducible refine LeO.ite ?_ ?_)
    | (with_reducible refine LeO.bind ?_ (fun _ => ?_))
    | exact ih0 _ _ _ _ _ _ _
    | exact ih1 _ _ _ _ _ _ _ _ _
    | exact ih2 _ _ _ _ _ _ _ _ _ _
    | exact partitalaw25_shown.mono _
    | exact partitaref25_Same.mono _ _ _
    | exact LeO.none _
    | refine LeO.ite ?_ ?_
    | refine LeO.bind ?_ (fun _ => ?_)
  · intro y0 y1 y2 y3 y4 y5 y6 y7 y8
    unfold partitalaw25_SystemsScaled.l0
    repeat' first
    | (with_reducible exact ih0 _ _ _ _ _ _ _)
    | (with_reducible exact ih1 _ _ _ _ _ _ _ _ _)
    | (with_reducible exact ih2 _ _ _ _ _ _ _ _ _ _)
    | (with_reducible exact partitalaw25_shown.mono _)
    | (with_reducible exact partitaref25_Same.mono _ _ _)
    | (with_reducible exact LeO.refl _)
    | (with_reducible exact LeO.none _)
    | (with_reducible refine LeO.ite ?_ ?_)
    | (with_reducible refine LeO.bind ?_ (fun _ => ?_))
    | exact ih0 _ _ _ _ _ _ _
    | exact ih1 _ _ _ _ _ _ _ _ _
    | exact ih2 _ _ _ _ _ _ _ _ _ _
    | exact partitalaw25_shown.mono _
    | exact partitaref25_Same.mono _ _ _
    | exact LeO.none _
    | refine LeO.ite ?_ ?_
    | refine LeO.bind ?_ (fun _ => ?_)
  · intro y0 y1 y2 y3 y4 y5 y6 y7 y8 y9
    unfold partitalaw25_SystemsScaled.j2
    repeat' first
    | (with_reducible exact ih0 _ _ _ _ _ _ _)
    | (with_reducible exact ih1 _ _ _ _ _ _ _ _ _)
    | (with_reducible exact ih2 _ _ _ _ _ _ _ _ _ _)
    | (with_reducible exact partitalaw25_shown.mono _)
    | (with_reducible exact partitaref25_Same.mono _ _ _)
    | (with_reducible exact LeO.refl _)
    | (with_reducible exact LeO.none _)
    | (with_reducible refine LeO.ite ?_ ?_)
    | (with_reducible refine LeO.bind ?_ (fun _ => ?_))
    | exact ih0 _ _ _ _ _ _ _
    | exact ih1 _ _ _ _ _ _ _ _ _
    | exact ih2 _ _ _ _ _ _ _ _ _ _
    | exact partitalaw25_shown.mono _
    | exact partitaref25_Same.mono _ _ _
    | exact LeO.none _
    | refine LeO.ite ?_ ?_
    | refine LeO.bind ?_ (fun _ => ?_)
theorem partitalaw25_SystemsScaled.mono : ∀ a0 a1 a2 a3 k, LeO (partitalaw25_SystemsScaled.f k a0 a1 a2 a3) (partitalaw25_SystemsScaled.f (k + 1) a0 a1 a2 a3) := by
 intro a0 a1 a2 a3 k
 obtain ⟨ih0, ih1, ih2⟩ := partitalaw25_SystemsScaled.mono_l k
 unfold partitalaw25_SystemsScaled.f
 repeat' first
  | (with_reducible exact ih0 _ _ _ _ _ _ _)
  | (with_reducible exact ih1 _ _ _ _ _ _ _ _ _)
  | (with_reducible exact ih2 _ _ _ _ _ _ _ _ _ _)
  | (with_reducible exact partitalaw25_shown.mono _)
  | (with_reducible exact partitaref25_Same.mono _ _ _)
  | (with_reducible exact LeO.refl _)
  | (with_reducible exact LeO.none _)
  | (with_reducible refine LeO.ite ?_ ?_)
  | (with_reducible refine LeO.bind ?_ (fun _ => ?_))
  | exact ih0 _ _ _ _ _ _ _
  | exact ih1 _ _ _ _ _ _ _ _ _
  | exact ih2 _ _ _ _ _ _ _ _ _ _
  | exact partitalaw25_shown.mono _
  | exact partitaref25_Same.mono _ _ _
  | exact LeO.none _
  | refine LeO.ite ?_ ?_
  | refine LeO.bind ?_ (fun _ => ?_)
set_option maxHeartbeats 8000000 in
set_option maxRecDepth 100000 in
theorem partitalaw25_SystemsScaled.calls (k : Nat) (A0 : Option Addr) (c0 : Nat) (l0 : List Int) (A1 : Option Addr) (c1 : Nat) (l1 : List Int) (a2 : Int) (a3 : Int) (r : Bool) (w : World) (hr0 : Kd.C (Kd.int .i64) w A0 l0.length l0) (hc0 : l0.length ≤ c0) (hr1 : Kd.C (Kd.int .i64) w A1 l1.length l1) (hc1 : l1.length ≤ c1) (h : partitalaw25_SystemsScaled.f k l0 l1 a2 a3 = some r) (SENTS : Aside0 (SentsE w) := by exact sents_step (by assumption) (by repeat (first | (with_reducible first | exact (by assumption : Aside0 (Below _ _ _)).out | apply below_alloc | apply pw_below_drewN | apply below_drew1)))) :
 Calls Tryd.prog 7 #[.slice A0 l0.length c0, .slice A1 l1.length c1, .int .i64 a2, .int .i64 a3] w fun e w' => e = .returned (.bool r) ∧ Below w.heap.size w w' := by
 have HR0 := Aside0.mk hr0
 have HC0 := Aside0.mk hc0
 clear hr0 hc0
 have HR1 := Aside0.mk hr1
 have HC1 := Aside0.mk hc1
 clear hr1 hc1
 have HB := Aside0.mk (Below.refl w.heap.size w)
 have H : ((partitalaw25_shown.f k).bind fun t301 => (if 0 ≤ (mn (l0.length : Int) 101) then (if (mn (l0.length : Int) 101) ≤ (l0.length : Int) then ((some (l0.take ((mn (l0.length : Int) 101) : Int).toNat : List Int)).bind fun y302 => (if 0 ≤ (mn (l1.length : Int) 101) then (if (mn (l1.length : Int) 101) ≤ (l1.length : Int) then ((some (l1.take ((mn (l1.length : Int) 101) : Int).toNat : List Int)).bind fun y306 => ((systems_Break.f y302 y306 a2).bind fun bt310 => (if bt310.2 = 0 then (if (mn (mx a3 1) 9) = 0 then (none) else (partitalaw25_SystemsScaled.j0 k y302 y306 a2 (mn (mx a3 1) 9) t301 bt310.1 (decide (a2 > ((100000 : Int) / (mn (mx a3 1) 9)))))) else (partitalaw25_SystemsScaled.j0 k y302 y306 a2 (mn (mx a3 1) 9) t301 bt310.1 true)))) else (none)) else (none))) else (none)) else (none))) = some r := h
 clear h
 replace H := Option.bind_eq_some_iff.mp H
 obtain ⟨t301, A50, H⟩ := H
 replace H : (if 0 ≤ (mn (l0.length : Int) 101) then (if (mn (l0.length : Int) 101) ≤ (l0.length : Int) then ((some (l0.take ((mn (l0.length : Int) 101) : Int).toNat : List Int)).bind fun y302 => (if 0 ≤ (mn (l1.length : Int) 101) then (if (mn (l1.length : Int) 101) ≤ (l1.length : Int) then ((some (l1.take ((mn (l1.length : Int) 101) : Int).toNat : List Int)).bind fun y306 => ((systems_Break.f y302 y306 a2).bind fun bt310 => (if bt310.2 = 0 then (if (mn (mx a3 1) 9) = 0 then (none) else (partitalaw25_SystemsScaled.j0 k y302 y306 a2 (mn (mx a3 1) 9) t301 bt310.1 (decide (a2 > ((100000 : Int) / (mn (mx a3 1) 9)))))) else (partitalaw25_SystemsScaled.j0 k y302 y306 a2 (mn (mx a3 1) 9) t301 bt310.1 true)))) else (none)) else (none))) else (none)) else (none)) = some r := H
 have A5 := Aside0.mk A50
 clear A50
 obtain ⟨ji6, hji6⟩ : ∃ j_ : Int, (mn (l0.length : Int) 101) = j_ := ⟨_, rfl⟩
 replace H : (if 0 ≤ (ji6) then (if (ji6) ≤ (l0.length : Int) then ((some (l0.take ((ji6) : Int).toNat : List Int)).bind fun y302 => (if 0 ≤ (mn (l1.length : Int) 101) then (if (mn (l1.length : Int) 101) ≤ (l1.length : Int) then ((some (l1.take ((mn (l1.length : Int) 101) : Int).toNat : List Int)).bind fun y306 => ((systems_Break.f y302 y306 a2).bind fun bt310 => (if bt310.2 = 0 then (if (mn (mx a3 1) 9) = 0 then (none) else (partitalaw25_SystemsScaled.j0 k y302 y306 a2 (mn (mx a3 1) 9) t301 bt310.1 (decide (a2 > ((100000 : Int) / (mn (mx a3 1) 9)))))) else (partitalaw25_SystemsScaled.j0 k y302 y306 a2 (mn (mx a3 1) 9) t301 bt310.1 true)))) else (none)) else (none))) else (none)) else (none)) = some r := by first | (rw [hji6] at H; exact H) | (simp only [hji6] at H ⊢; exact H)
 (try rw [hji6] at A5)
 (try (have hji6h : ji6 ≤ 101 := by (rw [← hji6]; unfold mn; (repeat' split) <;> omega)))
 (try (have hji6g : ji6 ≤ 64 := by omega))
 (try (have hji6l : 0 ≤ ji6 := by (rw [← hji6]; unfold mn; (repeat' split) <;> omega)))
 (try (have hji6m : 0 ≤ ji6 := by omega))
 have hji6_ : (if 101 < (l0.length : Int) then 101 else (l0.length : Int)) = ji6 := hji6
 by_cases c7 : 0 ≤ (ji6)
 · rw [if_pos c7] at H
   have c7b0 := eq_true c7
   have c7b1 : decide (0 ≤ (ji6)) = true := decide_eq_true c7
   clear c7
   by_cases c8 : (ji6) ≤ (l0.length : Int)
   · rw [if_pos c8] at H
     have c8b0 := eq_true c8
     have c8b1 : decide ((ji6) ≤ (l0.length : Int)) = true := decide_eq_true c8
     clear c8
     obtain ⟨y302, hy302⟩ : ∃ y_ : List Int, y_ = (l0.take ((ji6) : Int).toNat) := ⟨_, rfl⟩
     replace H : (if 0 ≤ (mn (l1.length : Int) 101) then (if (mn (l1.length : Int) 101) ≤ (l1.length : Int) then ((some (l1.take ((mn (l1.length : Int) 101) : Int).toNat : List Int)).bind fun y306 => ((systems_Break.f y302 y306 a2).bind fun bt310 => (if bt310.2 = 0 then (if (mn (mx a3 1) 9) = 0 then (none) else (partitalaw25_SystemsScaled.j0 k y302 y306 a2 (mn (mx a3 1) 9) t301 bt310.1 (decide (a2 > ((100000 : Int) / (mn (mx a3 1) 9)))))) else (partitalaw25_SystemsScaled.j0 k y302 y306 a2 (mn (mx a3 1) 9) t301 bt310.1 true)))) else (none)) else (none)) = some r := by first | (rw [hy302]; with_reducible exact H) | (have H2_ := (Option.bind_some _ _).symm.trans H; rw [hy302]; with_reducible exact H2_) | (have H2_ := (Option.bind_some _ _).symm.trans H; with_reducible exact H2_) | with_reducible exact H | (rw [hy302]; exact H) | exact H
     have Ny302 := Aside0.mk hy302
     clear hy302
     obtain ⟨ji9, hji9⟩ : ∃ j_ : Int, (mn (l1.length : Int) 101) = j_ := ⟨_, rfl⟩
     replace H : (if 0 ≤ (ji9) then (if (ji9) ≤ (l1.length : Int) then ((some (l1.take ((ji9) : Int).toNat : List Int)).bind fun y306 => ((systems_Break.f y302 y306 a2).bind fun bt310 => (if bt310.2 = 0 then (if (mn (mx a3 1) 9) = 0 then (none) else (partitalaw25_SystemsScaled.j0 k y302 y306 a2 (mn (mx a3 1) 9) t301 bt310.1 (decide (a2 > ((100000 : Int) / (mn (mx a3 1) 9)))))) else (partitalaw25_SystemsScaled.j0 k y302 y306 a2 (mn (mx a3 1) 9) t301 bt310.1 true)))) else (none)) else (none)) = some r := by first | (rw [hji9] at H; exact H) | (simp only [hji9] at H ⊢; exact H)
     (try rw [hji9] at A5)
     (try (have hji9h : ji9 ≤ 101 := by (rw [← hji9]; unfold mn; (repeat' split) <;> omega)))
     (try (have hji9g : ji9 ≤ 64 := by omega))
     (try (have hji9l : 0 ≤ ji9 := by (rw [← hji9]; unfold mn; (repeat' split) <;> omega)))
     (try (have hji9m : 0 ≤ ji9 := by omega))
     have hji9_ : (if 101 < (l1.length : Int) then 101 else (l1.length : Int)) = ji9 := hji9
     by_cases c10 : 0 ≤ (ji9)
     · rw [if_pos c10] at H
       have c10b0 := eq_true c10
       have c10b1 : decide (0 ≤ (ji9)) = true := decide_eq_true c10
       clear c10
       by_cases c11 : (ji9) ≤ (l1.length : Int)
       · rw [if_pos c11] at H
         have c11b0 := eq_true c11
         have c11b1 : decide ((ji9) ≤ (l1.length : Int)) = true := decide_eq_true c11
         clear c11
         obtain ⟨y306, hy306⟩ : ∃ y_ : List Int, y_ = (l1.take ((ji9) : Int).toNat) := ⟨_, rfl⟩
         replace H : ((systems_Break.f y302 y306 a2).bind fun bt310 => (if bt310.2 = 0 then (if (mn (mx a3 1) 9) = 0 then (none) else (partitalaw25_SystemsScaled.j0 k y302 y306 a2 (mn (mx a3 1) 9) t301 bt310.1 (decide (a2 > ((100000 : Int) / (mn (mx a3 1) 9)))))) else (partitalaw25_SystemsScaled.j0 k y302 y306 a2 (mn (mx a3 1) 9) t301 bt310.1 true))) = some r := by first | (rw [hy306]; with_reducible exact H) | (have H2_ := (Option.bind_some _ _).symm.trans H; rw [hy306]; with_reducible exact H2_) | (have H2_ := (Option.bind_some _ _).symm.trans H; with_reducible exact H2_) | with_reducible exact H | (rw [hy306]; exact H) | exact H
         have Ny306 := Aside0.mk hy306
         clear hy306
         obtain ⟨ji12, hji12⟩ : ∃ j_ : Int, (mx a3 1) = j_ := ⟨_, rfl⟩
         replace H : ((systems_Break.f y302 y306 a2).bind fun bt310 => (if bt310.2 = 0 then (if (mn (ji12) 9) = 0 then (none) else (partitalaw25_SystemsScaled.j0 k y302 y306 a2 (mn (ji12) 9) t301 bt310.1 (decide (a2 > ((100000 : Int) / (mn (ji12) 9)))))) else (partitalaw25_SystemsScaled.j0 k y302 y306 a2 (mn (ji12) 9) t301 bt310.1 true))) = some r := by first | (rw [hji12] at H; exact H) | (simp only [hji12] at H ⊢; exact H)
         (try rw [hji12] at A5)
         (try (have hji12l : 1 ≤ ji12 := by (rw [← hji12]; unfold mx; (repeat' split) <;> omega)))
         (try (have hji12m : 0 ≤ ji12 := by omega))
         have hji12_ : (if a3 < 1 then 1 else a3) = ji12 := hji12
         obtain ⟨ji13, hji13⟩ : ∃ j_ : Int, (mn (ji12) 9) = j_ := ⟨_, rfl⟩
         replace H : ((systems_Break.f y302 y306 a2).bind fun bt310 => (if bt310.2 = 0 then (if (ji13) = 0 then (none) else (partitalaw25_SystemsScaled.j0 k y302 y306 a2 ji13 t301 bt310.1 (decide (a2 > ((100000 : Int) / (ji13)))))) else (partitalaw25_SystemsScaled.j0 k y302 y306 a2 ji13 t301 bt310.1 true))) = some r := by first | (rw [hji13] at H; exact H) | (simp only [hji13] at H ⊢; exact H)
         (try rw [hji13] at A5)
         have hji13_ : (if 9 < (ji12) then 9 else (ji12)) = ji13 := hji13
         replace H := Option.bind_eq_some_iff.mp H
         obtain ⟨⟨t310, t311⟩, A140, H⟩ := H
         replace H : (if t311 = 0 then (if (ji13) = 0 then (none) else (partitalaw25_SystemsScaled.j0 k y302 y306 a2 ji13 t301 t310 (decide (a2 > ((100000 : Int) / (ji13)))))) else (partitalaw25_SystemsScaled.j0 k y302 y306 a2 ji13 t301 t310 true)) = some r := H
         have A14 := Aside0.mk A140
         clear A140
         have HC15 := Aside0.mk H
         clear H
         go_enter Tryd.func7, Tryd.ntmps7
         go_upto_region 6 with (first | (go_at_call 11; (with_reducible refine (Few_cut _ _ _ _ _ _ (by assumption) (by assumption) (by first | exact HC0.out | exact HC1.out)).mono ?_); rintro e w' ⟨rfl, rfl⟩) | (go_at_call 10; (with_reducible refine (partitalaw25_shown.calls k  t301 _ A5.out).mono ?_); rintro e w16 ⟨rfl, hb⟩; have n0_ := Aside0.mk (below_step (by repeat (first | (with_reducible first | exact HB.out | apply below_alloc | apply pw_below_drewN | apply below_drew1) | exact HB.out)) hb); clear HB; have HB := n0_; clear n0_; (try clear hb); (try clear hb2); (try clear hk); (try clear hi); have q17 : ((ji6) : Int) ≤ ((l0.length : Int) : Int) := of_decide_eq_true (by first | (with_reducible assumption) | assumption); obtain ⟨i017, hi017, _, hsz17, _⟩ := info_parts info3; have hroom17 : l0.length ≤ c0 := HC0.out; have hC17 : Kd.C (Kd.int .i64) _ A0 l0.length l0 := HR0.out; have hcut17 := cut_to (P := Tryd.prog) 22 3 .i64 Tryd.underlying22 hi017 A0 l0.length c0 (ji6) (of_decide_eq_true (by first | (with_reducible assumption) | assumption)) q17 hroom17; have hr17 := Kd.C_take (m := ((ji6) : Int).toNat) hC17 (by omega); have hy17 : y302.length = ((ji6) : Int).toNat := (by rw [Ny302.out, List.length_take]; omega); rw [← Ny302.out] at hr17; rw [← hy17] at hcut17; have HR305 := Aside0.mk hr17; have HC305 := Aside0.mk (show y302.length ≤ c0 from by omega); clear hr17 hC17 hroom17 hi017 hsz17; have KY17 := Aside0.mk hy17; clear hy17; replace q17 := eq_true q17; have q18 : ((ji9) : Int) ≤ ((l1.length : Int) : Int) := of_decide_eq_true (by first | (with_reducible assumption) | assumption); obtain ⟨i018, hi018, _, hsz18, _⟩ := info_parts info3; have hroom18 : l1.length ≤ c1 := HC1.out; have hC18 : Kd.C (Kd.int .i64) _ A1 l1.length l1 := HR1.out; have hcut18 := cut_to (P := Tryd.prog) 22 3 .i64 Tryd.underlying22 hi018 A1 l1.length c1 (ji9) (of_decide_eq_true (by first | (with_reducible assumption) | assumption)) q18 hroom18; have hr18 := Kd.C_take (m := ((ji9) : Int).toNat) hC18 (by omega); have hy18 : y306.length = ((ji9) : Int).toNat := (by rw [Ny306.out, List.length_take]; omega); rw [← Ny306.out] at hr18; rw [← hy18] at hcut18; have HR309 := Aside0.mk hr18; have HC309 := Aside0.mk (show y306.length ≤ c1 from by omega); clear hr18 hC18 hroom18 hi018 hsz18; have KY18 := Aside0.mk hy18; clear hy18; replace q18 := eq_true q18) | (go_at_call 14; (with_reducible refine (systems_Break.calls _ _ y302 _ _ y306 a2 t310 t311 _ ?side1 ?side2 ?side3 ?side4 A14.out).mono ?_); (case side1 => repeat (first | exact (Kd.C_below HR305.out HB.out) | (with_reducible refine Kd.C_alloc ?_ _) | (with_reducible refine Kd.C_drewN ?_ _) | (with_reducible refine Kd.C_drew ?_))); (case side2 => exact HC305.out); (case side3 => repeat (first | exact (Kd.C_below HR309.out HB.out) | (with_reducible refine Kd.C_alloc ?_ _) | (with_reducible refine Kd.C_drewN ?_ _) | (with_reducible refine Kd.C_drew ?_))); (case side4 => exact HC309.out); rintro e w19 ⟨v312, rfl, ho0, hb⟩; have n0_ := Aside0.mk (Kd.R_lower ho0 (below_size (by repeat (first | (with_reducible first | exact HB.out | apply below_alloc | apply pw_below_drewN | apply below_drew1) | exact HB.out)))); have n1_ := Aside0.mk (below_step (by repeat (first | (with_reducible first | exact HB.out | apply below_alloc | apply pw_below_drewN | apply below_drew1) | exact HB.out)) hb); clear HB; have HO313 := n0_; have HB := n1_; clear n0_ n1_; (try clear hb); (try clear hb2); (try clear hk); (try clear hi); (try clear ho0)))
         repeat (go_quiet (first | (go_at_call 10; (with_reducible refine (partitalaw25_shown.calls k  t301 _ A5.out).mono ?_); rintro e w16 ⟨rfl, hb⟩; have n0_ := Aside0.mk (below_step (by repeat (first | (with_reducible first | exact HB.out | apply below_alloc | apply pw_below_drewN | apply below_drew1) | exact HB.out)) hb); clear HB; have HB := n0_; clear n0_; (try clear hb); (try clear hb2); (try clear hk); (try clear hi); have q17 : ((ji6) : Int) ≤ ((l0.length : Int) : Int) := of_decide_eq_true (by first | (with_reducible assumption) | assumption); obtain ⟨i017, hi017, _, hsz17, _⟩ := info_parts info3; have hroom17 : l0.length ≤ c0 := HC0.out; have hC17 : Kd.C (Kd.int .i64) _ A0 l0.length l0 := HR0.out; have hcut17 := cut_to (P := Tryd.prog) 22 3 .i64 Tryd.underlying22 hi017 A0 l0.length c0 (ji6) (of_decide_eq_true (by first | (with_reducible assumption) | assumption)) q17 hroom17; have hr17 := Kd.C_take (m := ((ji6) : Int).toNat) hC17 (by omega); have hy17 : y302.length = ((ji6) : Int).toNat := (by rw [Ny302.out, List.length_take]; omega); rw [← Ny302.out] at hr17; rw [← hy17] at hcut17; have HR305 := Aside0.mk hr17; have HC305 := Aside0.mk (show y302.length ≤ c0 from by omega); clear hr17 hC17 hroom17 hi017 hsz17; have KY17 := Aside0.mk hy17; clear hy17; replace q17 := eq_true q17; have q18 : ((ji9) : Int) ≤ ((l1.length : Int) : Int) := of_decide_eq_true (by first | (with_reducible assumption) | assumption); obtain ⟨i018, hi018, _, hsz18, _⟩ := info_parts info3; have hroom18 : l1.length ≤ c1 := HC1.out; have hC18 : Kd.C (Kd.int .i64) _ A1 l1.length l1 := HR1.out; have hcut18 := cut_to (P := Tryd.prog) 22 3 .i64 Tryd.underlying22 hi018 A1 l1.length c1 (ji9) (of_decide_eq_true (by first | (with_reducible assumption) | assumption)) q18 hroom18; have hr18 := Kd.C_take (m := ((ji9) : Int).toNat) hC18 (by omega); have hy18 : y306.length = ((ji9) : Int).toNat := (by rw [Ny306.out, List.length_take]; omega); rw [← Ny306.out] at hr18; rw [← hy18] at hcut18; have HR309 := Aside0.mk hr18; have HC309 := Aside0.mk (show y306.length ≤ c1 from by omega); clear hr18 hC18 hroom18 hi018 hsz18; have KY18 := Aside0.mk hy18; clear hy18; replace q18 := eq_true q18) | (go_at_call 14; (with_reducible refine (systems_Break.calls _ _ y302 _ _ y306 a2 t310 t311 _ ?side1 ?side2 ?side3 ?side4 A14.out).mono ?_); (case side1 => repeat (first | exact (Kd.C_below HR305.out HB.out) | (with_reducible refine Kd.C_alloc ?_ _) | (with_reducible refine Kd.C_drewN ?_ _) | (with_reducible refine Kd.C_drew ?_))); (case side2 => exact HC305.out); (case side3 => repeat (first | exact (Kd.C_below HR309.out HB.out) | (with_reducible refine Kd.C_alloc ?_ _) | (with_reducible refine Kd.C_drewN ?_ _) | (with_reducible refine Kd.C_drew ?_))); (case side4 => exact HC309.out); rintro e w19 ⟨v312, rfl, ho0, hb⟩; have n0_ := Aside0.mk (Kd.R_lower ho0 (below_size (by repeat (first | (with_reducible first | exact HB.out | apply below_alloc | apply pw_below_drewN | apply below_drew1) | exact HB.out)))); have n1_ := Aside0.mk (below_step (by repeat (first | (with_reducible first | exact HB.out | apply below_alloc | apply pw_below_drewN | apply below_drew1) | exact HB.out)) hb); clear HB; have HO313 := n0_; have HB := n1_; clear n0_ n1_; (try clear hb); (try clear hb2); (try clear hk); (try clear hi); (try clear ho0))); go_upto_region 6 with (first | (go_at_call 11; (with_reducible refine (Few_cut _ _ _ _ _ _ (by assumption) (by assumption) (by first | exact HC0.out | exact HC1.out)).mono ?_); rintro e w' ⟨rfl, rfl⟩) | (go_at_call 10; (with_reducible refine (partitalaw25_shown.calls k  t301 _ A5.out).mono ?_); rintro e w16 ⟨rfl, hb⟩; have n0_ := Aside0.mk (below_step (by repeat (first | (with_reducible first | exact HB.out | apply below_alloc | apply pw_below_drewN | apply below_drew1) | exact HB.out)) hb); clear HB; have HB := n0_; clear n0_; (try clear hb); (try clear hb2); (try clear hk); (try clear hi); have q17 : ((ji6) : Int) ≤ ((l0.length : Int) : Int) := of_decide_eq_true (by first | (with_reducible assumption) | assumption); obtain ⟨i017, hi017, _, hsz17, _⟩ := info_parts info3; have hroom17 : l0.length ≤ c0 := HC0.out; have hC17 : Kd.C (Kd.int .i64) _ A0 l0.length l0 := HR0.out; have hcut17 := cut_to (P := Tryd.prog) 22 3 .i64 Tryd.underlying22 hi017 A0 l0.length c0 (ji6) (of_decide_eq_true (by first | (with_reducible assumption) | assumption)) q17 hroom17; have hr17 := Kd.C_take (m := ((ji6) : Int).toNat) hC17 (by omega); have hy17 : y302.length = ((ji6) : Int).toNat := (by rw [Ny302.out, List.length_take]; omega); rw [← Ny302.out] at hr17; rw [← hy17] at hcut17; have HR305 := Aside0.mk hr17; have HC305 := Aside0.mk (show y302.length ≤ c0 from by omega); clear hr17 hC17 hroom17 hi017 hsz17; have KY17 := Aside0.mk hy17; clear hy17; replace q17 := eq_true q17; have q18 : ((ji9) : Int) ≤ ((l1.length : Int) : Int) := of_decide_eq_true (by first | (with_reducible assumption) | assumption); obtain ⟨i018, hi018, _, hsz18, _⟩ := info_parts info3; have hroom18 : l1.length ≤ c1 := HC1.out; have hC18 : Kd.C (Kd.int .i64) _ A1 l1.length l1 := HR1.out; have hcut18 := cut_to (P := Tryd.prog) 22 3 .i64 Tryd.underlying22 hi018 A1 l1.length c1 (ji9) (of_decide_eq_true (by first | (with_reducible assumption) | assumption)) q18 hroom18; have hr18 := Kd.C_take (m := ((ji9) : Int).toNat) hC18 (by omega); have hy18 : y306.length = ((ji9) : Int).toNat := (by rw [Ny306.out, List.length_take]; omega); rw [← Ny306.out] at hr18; rw [← hy18] at hcut18; have HR309 := Aside0.mk hr18; have HC309 := Aside0.mk (show y306.length ≤ c1 from by omega); clear hr18 hC18 hroom18 hi018 hsz18; have KY18 := Aside0.mk hy18; clear hy18; replace q18 := eq_true q18) | (go_at_call 14; (with_reducible refine (systems_Break.calls _ _ y302 _ _ y306 a2 t310 t311 _ ?side1 ?side2 ?side3 ?side4 A14.out).mono ?_); (case side1 => repeat (first | exact (Kd.C_below HR305.out HB.out) | (with_reducible refine Kd.C_alloc ?_ _) | (with_reducible refine Kd.C_drewN ?_ _) | (with_reducible refine Kd.C_drew ?_))); (case side2 => exact HC305.out); (case side3 => repeat (first | exact (Kd.C_below HR309.out HB.out) | (with_reducible refine Kd.C_alloc ?_ _) | (with_reducible refine Kd.C_drewN ?_ _) | (with_reducible refine Kd.C_drew ?_))); (case side4 => exact HC309.out); rintro e w19 ⟨v312, rfl, ho0, hb⟩; have n0_ := Aside0.mk (Kd.R_lower ho0 (below_size (by repeat (first | (with_reducible first | exact HB.out | apply below_alloc | apply pw_below_drewN | apply below_drew1) | exact HB.out)))); have n1_ := Aside0.mk (below_step (by repeat (first | (with_reducible first | exact HB.out | apply below_alloc | apply pw_below_drewN | apply below_drew1) | exact HB.out)) hb); clear HB; have HO313 := n0_; have HB := n1_; clear n0_ n1_; (try clear hb); (try clear hb2); (try clear hk); (try clear hi); (try clear ho0))))
         (try simp only [Act.put, qa_, qz_, qs_])
         go_cut [39] (fun v39 wc => ∃ (kq : Nat) (x39_14 : Bool), v39 = .bool x39_14 ∧ Aside0 (partitalaw25_SystemsScaled.j0 kq y302 y306 a2 ji13 t301 t310 x39_14 = some r) ∧ Aside0 (kq ≤ k) ∧ Aside0 (Kd.R k38 38 wc w.heap.size (fun _ => True) v312 t310) ∧ Aside0 (Below w.heap.size w wc))
         case first =>
          have H := HC15.out
          clear HC15
          by_cases c20 : t311 = 0
          · rw [if_pos c20] at H
            have c20b0 : (t311 == 0) = true := beq_iff_eq.mpr c20
            have c20b1 : (t311 != 0) = false := bne_eq_false_iff_eq.mpr c20
            clear c20
            (first | rw [c20b0] | (simp only [i64_w, i32_w]; rw [c20b0]) | skip)
            by_cases c21 : (ji13) = 0
            · rw [if_pos c21] at H
              exact absurd H (by simp)
            · rw [if_neg c21] at H
              have c21b0 : ((ji13) == 0) = false := beq_eq_false_iff_ne.mpr c21
              have c21b1 : ((ji13) != 0) = true := bne_iff_ne.mpr c21
              have H' := Aside0.mk H
              clear H
              go_wp2
              repeat (go_quiet (fail); try go_wp2)
              go_meet
              case rel => exact ⟨_, (decide (a2 > ((100000 : Int) / (ji13)))), (by first | rfl | (simp; done) | (simp only [← hji13] <;> (first | rfl | simp)) | (simp [*]; done)), H', ⟨by first | omega | exact Nat.le_refl _⟩, ⟨by (with_reducible repeat (first | apply Kd.R_alloc | apply Kd.R_drewN | apply Kd.R_drew)); exact HO313.out⟩, ⟨by repeat (first | (with_reducible first | exact HB.out | apply below_alloc | apply pw_below_drewN | apply below_drew1) | exact HB.out)⟩⟩
          · rw [if_neg c20] at H
            have c20b0 : (t311 == 0) = false := beq_eq_false_iff_ne.mpr c20
            have c20b1 : (t311 != 0) = true := bne_iff_ne.mpr c20
            (first | rw [c20b0] | (simp only [i64_w, i32_w]; rw [c20b0]) | skip)
            have H' := Aside0.mk H
            clear H
            go_wp2
            repeat (go_quiet (fail); try go_wp2)
            go_meet
            case rel => exact ⟨_, (true), (by first | rfl | (simp; done) | (simp [*]; done) | (simp [wrap64]; done)), H', ⟨by first | omega | exact Nat.le_refl _⟩, ⟨by (with_reducible repeat (first | apply Kd.R_alloc | apply Kd.R_drewN | apply Kd.R_drew)); exact HO313.out⟩, ⟨by repeat (first | (with_reducible first | exact HB.out | apply below_alloc | apply pw_below_drewN | apply below_drew1) | exact HB.out)⟩⟩
         case rest =>
          clear HC15
          try clear c1
          try clear q1
          try clear c2
          try clear p2
          try clear c7
          try clear c7b0
          try clear c7b1
          try clear c8
          try clear c8b0
          try clear c8b1
          try clear c10
          try clear c10b0
          try clear c10b1
          try clear c11
          try clear c11b0
          try clear c11b1
          try clear q17
          try clear q18
          try clear c20
          try clear c20b0
          try clear c20b1
          try clear c21
          try clear c21b0
          try clear c21b1
          try clear q17
          try clear q18
          obtain ⟨kq, x39_14, rfl, HA, HJ14, HO_10, HB⟩ := hcut
          cases kq with
          | zero => exact absurd HA.out (by simp [partitalaw25_SystemsScaled.j0])
          | succ kj14 =>
           have H := HA.out
           clear HA
           simp only [partitalaw25_SystemsScaled.j0] at H
           by_cases c22 : x39_14 = true
           · subst c22
             have H1 : (if t301 = true then (some (decide ((t310.length : Int) ≤ (y302.length : Int)))) else none) = some r := by rw [if_pos rfl] at H; exact H
             clear H
             have H := H1
             clear H1
             by_cases c23 : t301 = true
             · subst c23
               have H1 : (some (decide ((t310.length : Int) ≤ (y302.length : Int)))) = some r := by rw [if_pos rfl] at H; exact H
               clear H
               have H := H1
               clear H1
               obtain rfl := Option.some.inj H
               obtain ⟨Ao24, co24, eo24⟩ := Kd.R_slice HO_10.out
               subst eo24
               go_wp2
               repeat (go_quiet (fail); try go_wp2)
               go_ret
               exact ⟨by first | rfl | (simp [errW_none, errW_some] <;> rfl) | (simp only [← hji6, ← hji9, ← hji12, ← hji13]; first | rfl | (simp [errW_none, errW_some] <;> rfl)) | (simp [*, errW_none, errW_some] <;> rfl), by repeat (first | (with_reducible first | exact HB.out | apply below_alloc | apply pw_below_drewN | apply below_drew1) | exact HB.out)⟩
             · replace c23 := Bool.eq_false_iff.mpr c23
               subst c23
               have H1 : none = some r := by rw [if_neg (show ¬ (false = true) by decide)] at H; exact H
               cases H1
           · replace c22 := Bool.eq_false_iff.mpr c22
             subst c22
             have H1 : (partitalaw25_SystemsScaled.l0 kj14 y302 y306 a2 ji13 t301 t310 ([] : List Int) ([] : List Int) 0) = some r := by rw [if_neg (show ¬ (false = true) by decide)] at H; exact H
             clear H
             have H := H1
             clear H1
             have H' := Aside0.mk H
             clear H
             go_wp2
             repeat (go_quiet (fail); try go_wp2)
             go_loopg [12, 13, 14] kj14 (fun kq v12 v13 v14 w' => ∃ (x12_2 : List Int) (x13_2 : List Int) (x14_2 : Int), v14 = .int .i64 x14_2 ∧ Aside0 (partitalaw25_SystemsScaled.l0 kq y302 y306 a2 ji13 t301 t310 x12_2 x13_2 x14_2 = some r) ∧ Aside0 (kq ≤ kj14) ∧ Aside0 (Kd.R k38 38 w' w.heap.size (fun _ => True) v312 t310) ∧ Aside0 (Kd.R (Kd.int .i64) 3 w' w.heap.size (fun k_ => some k_ ≠ (v13 : Value).ownBlock) v12 x12_2) ∧ Aside0 (Kd.R (Kd.int .i64) 3 w' w.heap.size (fun k_ => some k_ ≠ (v12 : Value).ownBlock) v13 x13_2) ∧ Aside0 (Below w.heap.size w w'))
             case atStart => exact ⟨(([] : List Int)), (([] : List Int)), (0), (by first | rfl | (simp; done) | (simp [*]; done) | (simp [wrap64]; done)), H', ⟨Nat.le_refl _⟩, ⟨by (with_reducible repeat (first | apply Kd.R_alloc | apply Kd.R_drewN | apply Kd.R_drew)); exact HO_10.out⟩, ⟨by first | exact Kd.R_nil _ _ _ _ _ | exact Kd.N_nil _ _ _ _ _ | exact Kd.V_nil _ _ _ _ _ | exact Kd.Q_nil _ _ _ _ _ | exact Kd.S_nil _ _ _ _ _⟩, ⟨by first | exact Kd.R_nil _ _ _ _ _ | exact Kd.N_nil _ _ _ _ _ | exact Kd.V_nil _ _ _ _ _ | exact Kd.Q_nil _ _ _ _ _ | exact Kd.S_nil _ _ _ _ _⟩, ⟨by repeat (first | (with_reducible first | exact HB.out | apply below_alloc | apply pw_below_drewN | apply below_drew1) | exact HB.out)⟩⟩
             case round =>
              clear H'
              try clear c1
              try clear q1
              try clear c2
              try clear p2
              try clear c7
              try clear c7b0
              try clear c7b1
              try clear c8
              try clear c8b0
              try clear c8b1
              try clear c10
              try clear c10b0
              try clear c10b1
              try clear c11
              try clear c11b0
              try clear c11b1
              try clear q17
              try clear q18
              try clear c20
              try clear c20b0
              try clear c20b1
              try clear c21
              try clear c21b0
              try clear c21b1
              try clear c22
              try clear c23
              try clear p2
              try clear q1
              try clear q17
              try clear q18
              obtain ⟨x12_2, x13_2, x14_2, rfl, HA, HK2, HO_10, HO_12, HO_13, HB⟩ := hrel
              cases gk with
              | zero => exact absurd HA.out (by simp [partitalaw25_SystemsScaled.l0])
              | succ k2 =>
               have H := HA.out
               clear HA
               simp only [partitalaw25_SystemsScaled.l0] at H
               have HC25 := Aside0.mk H
               clear H
               go_upto_region 11 with (fail)
               repeat (go_quiet (fail); go_upto_region 11 with (fail))
               go_cut [57] (fun v57 wc => ∃ (kq : Nat) (x57_24 : Bool), v57 = .bool x57_24 ∧ Aside0 (partitalaw25_SystemsScaled.j2 kq y302 y306 a2 ji13 t301 t310 x12_2 x13_2 x14_2 x57_24 = some r) ∧ Aside0 (kq ≤ k2) ∧ Aside0 (Kd.R k38 38 wc w.heap.size (fun _ => True) v312 t310) ∧ Aside0 (Kd.R (Kd.int .i64) 3 wc w.heap.size (fun k_ => some k_ ≠ (u13 : Value).ownBlock) u12 x12_2) ∧ Aside0 (Kd.R (Kd.int .i64) 3 wc w.heap.size (fun k_ => some k_ ≠ (u12 : Value).ownBlock) u13 x13_2) ∧ Aside0 (Below w.heap.size w wc))
               case first =>
                have H := HC25.out
                clear HC25
                by_cases c26 : x14_2 < (y302.length : Int)
                · rw [if_pos c26] at H
                  have c26b0 : decide (x14_2 < (y302.length : Int)) = true := decide_eq_true c26
                  clear c26
                  (first | rw [c26b0] | (simp only [i64_w, i32_w]; rw [c26b0]) | skip)
                  have H' := Aside0.mk H
                  clear H
                  go_wp2
                  repeat (go_quiet (fail); try go_wp2)
                  go_meet
                  case rel => exact ⟨_, (decide (x14_2 < (y306.length : Int))), (by first | rfl | (simp; done) | (simp [*]; done) | (simp [wrap64]; done)), H', ⟨by have := HJ14.out; have := HK2.out; first | omega | exact Nat.le_refl _⟩, ⟨by (with_reducible repeat (first | apply Kd.R_alloc | apply Kd.R_drewN | apply Kd.R_drew)); exact HO_10.out⟩, ⟨by (with_reducible repeat (first | apply Kd.R_alloc | apply Kd.R_drewN | apply Kd.R_drew)); exact HO_12.out⟩, ⟨by (with_reducible repeat (first | apply Kd.R_alloc | apply Kd.R_drewN | apply Kd.R_drew)); exact HO_13.out⟩, ⟨by repeat (first | (with_reducible first | exact HB.out | apply below_alloc | apply pw_below_drewN | apply below_drew1) | exact HB.out)⟩⟩
                · rw [if_neg c26] at H
                  have c26b0 : decide (x14_2 < (y302.length : Int)) = false := decide_eq_false c26
                  clear c26
                  (first | rw [c26b0] | (simp only [i64_w, i32_w]; rw [c26b0]) | skip)
                  have H' := Aside0.mk H
                  clear H
                  go_wp2
                  repeat (go_quiet (fail); try go_wp2)
                  go_meet
                  case rel => exact ⟨_, (false), (by first | rfl | (simp; done) | (simp [*]; done) | (simp [wrap64]; done)), H', ⟨by have := HJ14.out; have := HK2.out; first | omega | exact Nat.le_refl _⟩, ⟨by (with_reducible repeat (first | apply Kd.R_alloc | apply Kd.R_drewN | apply Kd.R_drew)); exact HO_10.out⟩, ⟨by (with_reducible repeat (first | apply Kd.R_alloc | apply Kd.R_drewN | apply Kd.R_drew)); exact HO_12.out⟩, ⟨by (with_reducible repeat (first | apply Kd.R_alloc | apply Kd.R_drewN | apply Kd.R_drew)); exact HO_13.out⟩, ⟨by repeat (first | (with_reducible first | exact HB.out | apply below_alloc | apply pw_below_drewN | apply below_drew1) | exact HB.out)⟩⟩
               case rest =>
                clear HC25
                try clear c1
                try clear q1
                try clear c2
                try clear p2
                try clear c7
                try clear c7b0
                try clear c7b1
                try clear c8
                try clear c8b0
                try clear c8b1
                try clear c10
                try clear c10b0
                try clear c10b1
                try clear c11
                try clear c11b0
                try clear c11b1
                try clear q17
                try clear q18
                try clear c20
                try clear c20b0
                try clear c20b1
                try clear c21
                try clear c21b0
                try clear c21b1
                try clear c22
                try clear c23
                try clear c26
                try clear c26b0
                try clear p2
                try clear q1
                try clear q17
                try clear q18
                obtain ⟨kq, x57_24, rfl, HA, HJ24, HO_10, HO_12, HO_13, HB⟩ := hcut
                cases kq with
                | zero => exact absurd HA.out (by simp [partitalaw25_SystemsScaled.j2])
                | succ kj24 =>
                 have H := HA.out
                 clear HA
                 simp only [partitalaw25_SystemsScaled.j2] at H
                 by_cases c27 : x57_24 = true
                 · subst c27
                   have H1 : (if 0 ≤ x14_2 then (if x14_2 < (y306.length : Int) then (if ji13 = 0 then (none) else (if (rd y306 x14_2) > (wrap64 ((100000 : Int) / ji13)) then (some t301) else (if x14_2 < (y302.length : Int) then (if x12_2.length < 17592186044416 then (if x13_2.length < 17592186044416 then (partitalaw25_SystemsScaled.l0 kj24 y302 y306 a2 ji13 t301 t310 (x12_2 ++ [wrap64 (ji13 * (rd y302 x14_2))]) (x13_2 ++ [wrap64 (ji13 * (rd y306 x14_2))]) (wrap64 (x14_2 + 1))) else (none)) else (none)) else (none)))) else (none)) else (none)) = some r := by rw [if_pos rfl] at H; exact H
                   clear H
                   have H := H1
                   clear H1
                   by_cases c28 : 0 ≤ x14_2
                   · rw [if_pos c28] at H
                     have c28b0 : decide (0 ≤ x14_2) = true := decide_eq_true c28
                     clear c28
                     by_cases c29 : x14_2 < (y306.length : Int)
                     · rw [if_pos c29] at H
                       have c29b0 : decide (x14_2 < (y306.length : Int)) = true := decide_eq_true c29
                       clear c29
                       by_cases c30 : ji13 = 0
                       · rw [if_pos c30] at H
                         exact absurd H (by simp)
                       · rw [if_neg c30] at H
                         have c30b0 : (ji13 == 0) = false := beq_eq_false_iff_ne.mpr c30
                         have c30b1 : (ji13 != 0) = true := bne_iff_ne.mpr c30
                         by_cases c31 : (rd y306 x14_2) > (wrap64 ((100000 : Int) / ji13))
                         · rw [if_pos c31] at H
                           have c31b0 : decide ((wrap64 ((100000 : Int) / ji13)) < (rd y306 x14_2)) = true := decide_eq_true c31
                           have c31z := c31b0
                           rw [wrap64_id_ (n := (100000 : Int) / ji13) ⟨by have := Int.ediv_nonneg (a := 100000) (b := ji13) (by omega) (by rw [← hji13_]; split <;> omega); omega, by have := Int.ediv_le_self (a := 100000) ji13 (by omega); omega⟩] at c31z
                           clear c31
                           obtain rfl := Option.some.inj H
                           have p314 : 0 ≤ (x14_2 : Int) := of_decide_eq_true (by first | (with_reducible assumption) | assumption)
                           have q314 : x14_2 < (y306.length : Int) := of_decide_eq_true (by first | (with_reducible assumption) | assumption)
                           obtain ⟨ad314, e314, hx314_0⟩ := Kd.at_int HR309.out x14_2 p314 q314
                           cases e314
                           replace hx314_0 := (HB.out.cell (World.block_lt_of_cell? w _ hx314_0)).trans hx314_0
                           replace p314 := eq_true p314
                           replace q314 := eq_true q314
                           go_wp2
                           repeat (go_quiet (fail); try go_wp2)
                           go_ret
                           exact ⟨by first | rfl | (simp [errW_none, errW_some] <;> rfl) | (simp only [← hji6, ← hji9, ← hji12, ← hji13]; first | rfl | (simp [errW_none, errW_some] <;> rfl)) | (simp [*, errW_none, errW_some] <;> rfl), by repeat (first | (with_reducible first | exact HB.out | apply below_alloc | apply pw_below_drewN | apply below_drew1) | exact HB.out)⟩
                         · rw [if_neg c31] at H
                           have c31b0 : decide ((wrap64 ((100000 : Int) / ji13)) < (rd y306 x14_2)) = false := decide_eq_false c31
                           have c31z := c31b0
                           rw [wrap64_id_ (n := (100000 : Int) / ji13) ⟨by have := Int.ediv_nonneg (a := 100000) (b := ji13) (by omega) (by rw [← hji13_]; split <;> omega); omega, by have := Int.ediv_le_self (a := 100000) ji13 (by omega); omega⟩] at c31z
                           clear c31
                           by_cases c32 : x14_2 < (y302.length : Int)
                           · rw [if_pos c32] at H
                             have c32b0 : decide (x14_2 < (y302.length : Int)) = true := decide_eq_true c32
                             clear c32
                             by_cases c33 : x12_2.length < 17592186044416
                             · rw [if_pos c33] at H
                               have LMc33 := Aside0.mk c33
                               clear c33
                               obtain ⟨y316, hy316⟩ : ∃ y_ : List Int, y_ = (x12_2 ++ [wrap64 (ji13 * (rd y302 x14_2))]) := ⟨_, rfl⟩
                               replace H : (if x13_2.length < 17592186044416 then (partitalaw25_SystemsScaled.l0 kj24 y302 y306 a2 ji13 t301 t310 y316 (x13_2 ++ [wrap64 (ji13 * (rd y306 x14_2))]) (wrap64 (x14_2 + 1))) else (none)) = some r := by first | (rw [hy316]; with_reducible exact H) | (have H2_ := (Option.bind_some _ _).symm.trans H; rw [hy316]; with_reducible exact H2_) | (have H2_ := (Option.bind_some _ _).symm.trans H; with_reducible exact H2_) | with_reducible exact H | (rw [hy316]; exact H) | exact H
                               have Ny316 := Aside0.mk hy316
                               clear hy316
                               by_cases c34 : x13_2.length < 17592186044416
                               · rw [if_pos c34] at H
                                 have LMc34 := Aside0.mk c34
                                 clear c34
                                 obtain ⟨y320, hy320⟩ : ∃ y_ : List Int, y_ = (x13_2 ++ [wrap64 (ji13 * (rd y306 x14_2))]) := ⟨_, rfl⟩
                                 replace H : (partitalaw25_SystemsScaled.l0 kj24 y302 y306 a2 ji13 t301 t310 y316 y320 (wrap64 (x14_2 + 1))) = some r := by first | (rw [hy320]; with_reducible exact H) | (have H2_ := (Option.bind_some _ _).symm.trans H; rw [hy320]; with_reducible exact H2_) | (have H2_ := (Option.bind_some _ _).symm.trans H; with_reducible exact H2_) | with_reducible exact H | (rw [hy320]; exact H) | exact H
                                 have Ny320 := Aside0.mk hy320
                                 clear hy320
                                 have H' := Aside0.mk H
                                 clear H
                                 have p314 : 0 ≤ (x14_2 : Int) := of_decide_eq_true (by first | (with_reducible assumption) | assumption)
                                 have q314 : x14_2 < (y306.length : Int) := of_decide_eq_true (by first | (with_reducible assumption) | assumption)
                                 obtain ⟨ad314, e314, hx314_0⟩ := Kd.at_int HR309.out x14_2 p314 q314
                                 cases e314
                                 replace hx314_0 := (HB.out.cell (World.block_lt_of_cell? w _ hx314_0)).trans hx314_0
                                 replace p314 := eq_true p314
                                 replace q314 := eq_true q314
                                 have p315 : 0 ≤ (x14_2 : Int) := of_decide_eq_true (by first | (with_reducible assumption) | assumption)
                                 have q315 : x14_2 < (y302.length : Int) := of_decide_eq_true (by first | (with_reducible assumption) | assumption)
                                 obtain ⟨ad315, e315, hx315_0⟩ := Kd.at_int HR305.out x14_2 p315 q315
                                 cases e315
                                 replace hx315_0 := (HB.out.cell (World.block_lt_of_cell? w _ hx315_0)).trans hx315_0
                                 replace p315 := eq_true p315
                                 replace q315 := eq_true q315
                                 go_wp2_with (first | (go_at_call 11; (with_reducible refine (Few_cut _ _ _ _ _ _ (by assumption) (by assumption) (by first | exact HC0.out | exact HC1.out)).mono ?_); rintro e w' ⟨rfl, rfl⟩) | ((with_reducible refine gate_builtin (b := .append) (xs := #[.tmp 68, .tmp 75]) rfl ?_); (try (refine gate_guard (by rfl) ?_; dsimp only)); at_builtin; refine Kd.R_append (Kd.int .i64) (w0 := w) w.heap.size rfl (.tmp 68) (.tmp 75) 22 3 (.int .i64 0) 8 rfl Tryd.underlying22 info3 rfl (by decide) (by omega) u12 x12_2 (wrap64 (ji13 * (rd y302 x14_2))) [.int .i64 (wrap64 (ji13 * (rd y302 x14_2)))] (fun k_ => some k_ ≠ (u13 : Value).ownBlock) (fun _ => False) rfl rfl ?aP (fun _ hk => hk.elim) ?aF ?aO ?aB ?aS ?aL ?_; (case aP => exact rfl); (case aB => exact (by repeat (first | (with_reducible first | exact HB.out | apply below_alloc | apply pw_below_drewN | apply below_drew1) | exact HB.out))); (case aF => exact (fun k_ hk => Kd.fresh' (Kd.R_lt (qR HO_13.out)) k_ hk)); (case aO => exact (qR HO_12.out)); (case aS => exact (below_size (by repeat (first | (with_reducible first | exact HB.out | apply below_alloc | apply pw_below_drewN | apply below_drew1) | exact HB.out)))); (case aL => have := LMc33.out; omega); intro v317 w35 ho hb hg hat; rw [← Ny316.out] at ho; have n0_ := Aside0.mk (Kd.R_over' (qR HO_10.out) (Kd.R_typed (qR HO_12.out)) (by decide) hg); have n1_ := Aside0.mk (Kd.R_after (ok := (fun _ => True)) (qR (Kd.R_mono HO_13.out (fun _ hk => ⟨trivial, hk⟩))) hg hat); have n2_ := Aside0.mk (hb); have n3_ := Aside0.mk (ho); clear HO_10; clear HO_13; clear HB; clear HO_12; have HO_10 := n0_; have HO_13 := n1_; have HB := n2_; have HO318 := n3_; clear n0_ n1_ n2_ n3_; clear ho hb hg hat; have p319 : 0 ≤ (x14_2 : Int) := of_decide_eq_true (by first | (with_reducible assumption) | assumption); have q319 : x14_2 < (y306.length : Int) := of_decide_eq_true (by first | (with_reducible assumption) | assumption); obtain ⟨ad319, e319, hx319_0⟩ := Kd.at_int HR309.out x14_2 p319 q319; obtain rfl : ad314 = ad319 := (by injection e319); replace hx319_0 := (HB.out.cell (World.block_lt_of_cell? w _ hx319_0)).trans hx319_0; replace p319 := eq_true p319; replace q319 := eq_true q319) | ((with_reducible refine gate_builtin (b := .append) (xs := #[.tmp 77, .tmp 84]) rfl ?_); (try (refine gate_guard (by rfl) ?_; dsimp only)); at_builtin; refine Kd.R_append (Kd.int .i64) (w0 := w) w.heap.size rfl (.tmp 77) (.tmp 84) 22 3 (.int .i64 0) 8 rfl Tryd.underlying22 info3 rfl (by decide) (by omega) u13 x13_2 (wrap64 (ji13 * (rd y306 x14_2))) [.int .i64 (wrap64 (ji13 * (rd y306 x14_2)))] (fun k_ => some k_ ≠ (v317 : Value).ownBlock) (fun _ => False) rfl rfl ?aP (fun _ hk => hk.elim) ?aF ?aO ?aB ?aS ?aL ?_; (case aP => exact rfl); (case aB => exact (by repeat (first | (with_reducible first | exact HB.out | apply below_alloc | apply pw_below_drewN | apply below_drew1) | exact HB.out))); (case aF => exact (fun k_ hk => Kd.fresh' (Kd.R_lt (qR HO318.out)) k_ hk)); (case aO => exact (qR (Kd.R_mono HO_13.out (fun _ hk => hk.2)))); (case aS => exact (below_size (by repeat (first | (with_reducible first | exact HB.out | apply below_alloc | apply pw_below_drewN | apply below_drew1) | exact HB.out)))); (case aL => have := LMc34.out; omega); intro v321 w36 ho hb hg hat; rw [← Ny320.out] at ho; have n0_ := Aside0.mk (Kd.R_over' (qR HO_10.out) (Kd.R_typed (qR HO_13.out)) (by decide) hg); have n1_ := Aside0.mk (Kd.R_after (ok := (fun _ => True)) (qR (Kd.R_mono HO318.out (fun _ hk => ⟨trivial, hk⟩))) hg hat); have n2_ := Aside0.mk (hb); have n3_ := Aside0.mk (ho); clear HO_10; clear HO318; clear HB; clear HO_13; have HO_10 := n0_; have HO318 := n1_; have HB := n2_; have HO322 := n3_; clear n0_ n1_ n2_ n3_; clear ho hb hg hat))
                                 repeat (go_quiet (first | ((with_reducible refine gate_builtin (b := .append) (xs := #[.tmp 68, .tmp 75]) rfl ?_); (try (refine gate_guard (by rfl) ?_; dsimp only)); at_builtin; refine Kd.R_append (Kd.int .i64) (w0 := w) w.heap.size rfl (.tmp 68) (.tmp 75) 22 3 (.int .i64 0) 8 rfl Tryd.underlying22 info3 rfl (by decide) (by omega) u12 x12_2 (wrap64 (ji13 * (rd y302 x14_2))) [.int .i64 (wrap64 (ji13 * (rd y302 x14_2)))] (fun k_ => some k_ ≠ (u13 : Value).ownBlock) (fun _ => False) rfl rfl ?aP (fun _ hk => hk.elim) ?aF ?aO ?aB ?aS ?aL ?_; (case aP => exact rfl); (case aB => exact (by repeat (first | (with_reducible first | exact HB.out | apply below_alloc | apply pw_below_drewN | apply below_drew1) | exact HB.out))); (case aF => exact (fun k_ hk => Kd.fresh' (Kd.R_lt (qR HO_13.out)) k_ hk)); (case aO => exact (qR HO_12.out)); (case aS => exact (below_size (by repeat (first | (with_reducible first | exact HB.out | apply below_alloc | apply pw_below_drewN | apply below_drew1) | exact HB.out)))); (case aL => have := LMc33.out; omega); intro v317 w35 ho hb hg hat; rw [← Ny316.out] at ho; have n0_ := Aside0.mk (Kd.R_over' (qR HO_10.out) (Kd.R_typed (qR HO_12.out)) (by decide) hg); have n1_ := Aside0.mk (Kd.R_after (ok := (fun _ => True)) (qR (Kd.R_mono HO_13.out (fun _ hk => ⟨trivial, hk⟩))) hg hat); have n2_ := Aside0.mk (hb); have n3_ := Aside0.mk (ho); clear HO_10; clear HO_13; clear HB; clear HO_12; have HO_10 := n0_; have HO_13 := n1_; have HB := n2_; have HO318 := n3_; clear n0_ n1_ n2_ n3_; clear ho hb hg hat; have p319 : 0 ≤ (x14_2 : Int) := of_decide_eq_true (by first | (with_reducible assumption) | assumption); have q319 : x14_2 < (y306.length : Int) := of_decide_eq_true (by first | (with_reducible assumption) | assumption); obtain ⟨ad319, e319, hx319_0⟩ := Kd.at_int HR309.out x14_2 p319 q319; obtain rfl : ad314 = ad319 := (by injection e319); replace hx319_0 := (HB.out.cell (World.block_lt_of_cell? w _ hx319_0)).trans hx319_0; replace p319 := eq_true p319; replace q319 := eq_true q319) | ((with_reducible refine gate_builtin (b := .append) (xs := #[.tmp 77, .tmp 84]) rfl ?_); (try (refine gate_guard (by rfl) ?_; dsimp only)); at_builtin; refine Kd.R_append (Kd.int .i64) (w0 := w) w.heap.size rfl (.tmp 77) (.tmp 84) 22 3 (.int .i64 0) 8 rfl Tryd.underlying22 info3 rfl (by decide) (by omega) u13 x13_2 (wrap64 (ji13 * (rd y306 x14_2))) [.int .i64 (wrap64 (ji13 * (rd y306 x14_2)))] (fun k_ => some k_ ≠ (v317 : Value).ownBlock) (fun _ => False) rfl rfl ?aP (fun _ hk => hk.elim) ?aF ?aO ?aB ?aS ?aL ?_; (case aP => exact rfl); (case aB => exact (by repeat (first | (with_reducible first | exact HB.out | apply below_alloc | apply pw_below_drewN | apply below_drew1) | exact HB.out))); (case aF => exact (fun k_ hk => Kd.fresh' (Kd.R_lt (qR HO318.out)) k_ hk)); (case aO => exact (qR (Kd.R_mono HO_13.out (fun _ hk => hk.2)))); (case aS => exact (below_size (by repeat (first | (with_reducible first | exact HB.out | apply below_alloc | apply pw_below_drewN | apply below_drew1) | exact HB.out)))); (case aL => have := LMc34.out; omega); intro v321 w36 ho hb hg hat; rw [← Ny320.out] at ho; have n0_ := Aside0.mk (Kd.R_over' (qR HO_10.out) (Kd.R_typed (qR HO_13.out)) (by decide) hg); have n1_ := Aside0.mk (Kd.R_after (ok := (fun _ => True)) (qR (Kd.R_mono HO318.out (fun _ hk => ⟨trivial, hk⟩))) hg hat); have n2_ := Aside0.mk (hb); have n3_ := Aside0.mk (ho); clear HO_10; clear HO318; clear HB; clear HO_13; have HO_10 := n0_; have HO318 := n1_; have HB := n2_; have HO322 := n3_; clear n0_ n1_ n2_ n3_; clear ho hb hg hat)); try go_wp2_with (first | (go_at_call 11; (with_reducible refine (Few_cut _ _ _ _ _ _ (by assumption) (by assumption) (by first | exact HC0.out | exact HC1.out)).mono ?_); rintro e w' ⟨rfl, rfl⟩) | ((with_reducible refine gate_builtin (b := .append) (xs := #[.tmp 68, .tmp 75]) rfl ?_); (try (refine gate_guard (by rfl) ?_; dsimp only)); at_builtin; refine Kd.R_append (Kd.int .i64) (w0 := w) w.heap.size rfl (.tmp 68) (.tmp 75) 22 3 (.int .i64 0) 8 rfl Tryd.underlying22 info3 rfl (by decide) (by omega) u12 x12_2 (wrap64 (ji13 * (rd y302 x14_2))) [.int .i64 (wrap64 (ji13 * (rd y302 x14_2)))] (fun k_ => some k_ ≠ (u13 : Value).ownBlock) (fun _ => False) rfl rfl ?aP (fun _ hk => hk.elim) ?aF ?aO ?aB ?aS ?aL ?_; (case aP => exact rfl); (case aB => exact (by repeat (first | (with_reducible first | exact HB.out | apply below_alloc | apply pw_below_drewN | apply below_drew1) | exact HB.out))); (case aF => exact (fun k_ hk => Kd.fresh' (Kd.R_lt (qR HO_13.out)) k_ hk)); (case aO => exact (qR HO_12.out)); (case aS => exact (below_size (by repeat (first | (with_reducible first | exact HB.out | apply below_alloc | apply pw_below_drewN | apply below_drew1) | exact HB.out)))); (case aL => have := LMc33.out; omega); intro v317 w35 ho hb hg hat; rw [← Ny316.out] at ho; have n0_ := Aside0.mk (Kd.R_over' (qR HO_10.out) (Kd.R_typed (qR HO_12.out)) (by decide) hg); have n1_ := Aside0.mk (Kd.R_after (ok := (fun _ => True)) (qR (Kd.R_mono HO_13.out (fun _ hk => ⟨trivial, hk⟩))) hg hat); have n2_ := Aside0.mk (hb); have n3_ := Aside0.mk (ho); clear HO_10; clear HO_13; clear HB; clear HO_12; have HO_10 := n0_; have HO_13 := n1_; have HB := n2_; have HO318 := n3_; clear n0_ n1_ n2_ n3_; clear ho hb hg hat; have p319 : 0 ≤ (x14_2 : Int) := of_decide_eq_true (by first | (with_reducible assumption) | assumption); have q319 : x14_2 < (y306.length : Int) := of_decide_eq_true (by first | (with_reducible assumption) | assumption); obtain ⟨ad319, e319, hx319_0⟩ := Kd.at_int HR309.out x14_2 p319 q319; obtain rfl : ad314 = ad319 := (by injection e319); replace hx319_0 := (HB.out.cell (World.block_lt_of_cell? w _ hx319_0)).trans hx319_0; replace p319 := eq_true p319; replace q319 := eq_true q319) | ((with_reducible refine gate_builtin (b := .append) (xs := #[.tmp 77, .tmp 84]) rfl ?_); (try (refine gate_guard (by rfl) ?_; dsimp only)); at_builtin; refine Kd.R_append (Kd.int .i64) (w0 := w) w.heap.size rfl (.tmp 77) (.tmp 84) 22 3 (.int .i64 0) 8 rfl Tryd.underlying22 info3 rfl (by decide) (by omega) u13 x13_2 (wrap64 (ji13 * (rd y306 x14_2))) [.int .i64 (wrap64 (ji13 * (rd y306 x14_2)))] (fun k_ => some k_ ≠ (v317 : Value).ownBlock) (fun _ => False) rfl rfl ?aP (fun _ hk => hk.elim) ?aF ?aO ?aB ?aS ?aL ?_; (case aP => exact rfl); (case aB => exact (by repeat (first | (with_reducible first | exact HB.out | apply below_alloc | apply pw_below_drewN | apply below_drew1) | exact HB.out))); (case aF => exact (fun k_ hk => Kd.fresh' (Kd.R_lt (qR HO318.out)) k_ hk)); (case aO => exact (qR (Kd.R_mono HO_13.out (fun _ hk => hk.2)))); (case aS => exact (below_size (by repeat (first | (with_reducible first | exact HB.out | apply below_alloc | apply pw_below_drewN | apply below_drew1) | exact HB.out)))); (case aL => have := LMc34.out; omega); intro v321 w36 ho hb hg hat; rw [← Ny320.out] at ho; have n0_ := Aside0.mk (Kd.R_over' (qR HO_10.out) (Kd.R_typed (qR HO_13.out)) (by decide) hg); have n1_ := Aside0.mk (Kd.R_after (ok := (fun _ => True)) (qR (Kd.R_mono HO318.out (fun _ hk => ⟨trivial, hk⟩))) hg hat); have n2_ := Aside0.mk (hb); have n3_ := Aside0.mk (ho); clear HO_10; clear HO318; clear HB; clear HO_13; have HO_10 := n0_; have HO318 := n1_; have HB := n2_; have HO322 := n3_; clear n0_ n1_ n2_ n3_; clear ho hb hg hat)))
                                 go_roundg kj24
                                 case measure => have := HJ14.out; have := HK2.out; have := HJ24.out; omega
                                 case rel => exact ⟨(y316), (y320), (wrap64 (x14_2 + 1)), (by first | rfl | (simp; done) | (simp [*]; done) | (simp [wrap64]; done)), H', ⟨by have := HJ14.out; have := HK2.out; have := HJ24.out; omega⟩, ⟨by (with_reducible repeat (first | apply Kd.R_alloc | apply Kd.R_drewN | apply Kd.R_drew)); exact HO_10.out⟩, ⟨by (with_reducible repeat (first | apply Kd.R_alloc | apply Kd.R_drewN | apply Kd.R_drew)); exact Kd.R_mono HO318.out (fun _ hk => hk.2)⟩, ⟨by (with_reducible repeat (first | apply Kd.R_alloc | apply Kd.R_drewN | apply Kd.R_drew)); exact HO322.out⟩, ⟨by repeat (first | (with_reducible first | exact HB.out | apply below_alloc | apply pw_below_drewN | apply below_drew1) | exact HB.out)⟩⟩
                               · rw [if_neg c34] at H
                                 exact absurd H (by simp)
                             · rw [if_neg c33] at H
                               exact absurd H (by simp)
                           · rw [if_neg c32] at H
                             exact absurd H (by simp)
                     · rw [if_neg c29] at H
                       exact absurd H (by simp)
                   · rw [if_neg c28] at H
                     exact absurd H (by simp)
                 · replace c27 := Bool.eq_false_iff.mpr c27
                   subst c27
                   have H1 : ((systems_Break.f x12_2 x13_2 (wrap64 (ji13 * a2))).bind fun bt323 => (if t301 = true then (if bt323.2 = 0 then ((partitaref25_Same.f kj24 t310 bt323.1).bind fun t327 => (some t327)) else none) else none)) = some r := by rw [if_neg (show ¬ (false = true) by decide)] at H; exact H
                   clear H
                   have H := H1
                   clear H1
                   replace H := Option.bind_eq_some_iff.mp H
                   obtain ⟨⟨t323, t324⟩, A370, H⟩ := H
                   replace H : (if t301 = true then (if t324 = 0 then ((partitaref25_Same.f kj24 t310 t323).bind fun t327 => (some t327)) else none) else none) = some r := H
                   have A37 := Aside0.mk A370
                   clear A370
                   by_cases c38 : t301 = true
                   · subst c38
                     have H1 : (if t324 = 0 then ((partitaref25_Same.f kj24 t310 t323).bind fun t327 => (some t327)) else none) = some r := by rw [if_pos rfl] at H; exact H
                     clear H
                     have H := H1
                     clear H1
                     by_cases c39 : t324 = 0
                     · rw [if_pos c39] at H
                       have c39b0 : (t324 == 0) = true := beq_iff_eq.mpr c39
                       have c39b1 : (t324 != 0) = false := bne_eq_false_iff_eq.mpr c39
                       clear c39
                       replace H := Option.bind_eq_some_iff.mp H
                       obtain ⟨t327, A400, H⟩ := H
                       replace H : (some t327) = some r := H
                       have A40 := Aside0.mk A400
                       clear A400
                       obtain rfl := Option.some.inj H
                       obtain ⟨Ao41, co41, eo41⟩ := Kd.R_slice HO_12.out
                       subst eo41
                       obtain ⟨Ao42, co42, eo42⟩ := Kd.R_slice HO_13.out
                       subst eo42
                       go_wp2_with (first | (go_at_call 11; (with_reducible refine (Few_cut _ _ _ _ _ _ (by assumption) (by assumption) (by first | exact HC0.out | exact HC1.out)).mono ?_); rintro e w' ⟨rfl, rfl⟩) | (go_at_call 14; (with_reducible refine (systems_Break.calls _ _ x12_2 _ _ x13_2 (wrap64 (ji13 * a2)) t323 t324 _ ?side1 ?side2 ?side3 ?side4 A37.out).mono ?_); (case side1 => repeat (first | exact (Kd.R_reads' HO_12.out).2.2 | (with_reducible refine Kd.C_alloc ?_ _) | (with_reducible refine Kd.C_drewN ?_ _) | (with_reducible refine Kd.C_drew ?_))); (case side2 => exact (Kd.R_reads' HO_12.out).2.1); (case side3 => repeat (first | exact (Kd.R_reads' HO_13.out).2.2 | (with_reducible refine Kd.C_alloc ?_ _) | (with_reducible refine Kd.C_drewN ?_ _) | (with_reducible refine Kd.C_drew ?_))); (case side4 => exact (Kd.R_reads' HO_13.out).2.1); rintro e w43 ⟨v325, rfl, ho0, hb⟩; have n0_ := Aside0.mk (Kd.R_elder' (qR HO_10.out) (Kd.R_base ho0) hb); have n1_ := Aside0.mk (Kd.R_below (qR HO_12.out) hb); have n2_ := Aside0.mk (Kd.R_below (qR HO_13.out) hb); have n3_ := Aside0.mk (Kd.R_lower (Kd.R_new' ho0 (Kd.R_lt (qR HO_10.out))) (below_size (by repeat (first | (with_reducible first | exact HB.out | apply below_alloc | apply pw_below_drewN | apply below_drew1) | exact HB.out)))); have n4_ := Aside0.mk (below_step (by repeat (first | (with_reducible first | exact HB.out | apply below_alloc | apply pw_below_drewN | apply below_drew1) | exact HB.out)) hb); clear HO_10; clear HO_12; clear HO_13; clear HB; have HO_10 := n0_; have HO_12 := n1_; have HO_13 := n2_; have HO326 := n3_; have HB := n4_; clear n0_ n1_ n2_ n3_ n4_; (try clear hb); (try clear hb2); (try clear hk); (try clear hi); (try clear ho0); obtain ⟨Ao44, co44, eo44⟩ := Kd.R_slice HO_10.out; subst eo44; obtain ⟨Ao45, co45, eo45⟩ := Kd.R_slice HO326.out; subst eo45) | (go_at_call 16; (with_reducible refine (partitaref25_Same.calls kj24 _ _ t310 _ _ t323 t327 _ ?side1 ?side2 ?side3 ?side4 A40.out).mono ?_); (case side1 => repeat (first | exact (Kd.R_reads' HO_10.out).2.2 | (with_reducible refine Kd.C_alloc ?_ _) | (with_reducible refine Kd.C_drewN ?_ _) | (with_reducible refine Kd.C_drew ?_))); (case side2 => exact (Kd.R_reads' HO_10.out).2.1); (case side3 => repeat (first | exact (Kd.R_reads' HO326.out).2.2 | (with_reducible refine Kd.C_alloc ?_ _) | (with_reducible refine Kd.C_drewN ?_ _) | (with_reducible refine Kd.C_drew ?_))); (case side4 => exact (Kd.R_reads' HO326.out).2.1); rintro e w' ⟨rfl, ⟨nd, rfl⟩⟩; (try first | exact ⟨rfl, _, World.drewN_drewN _ _ _⟩ | exact ⟨rfl, _, Eq.trans (World.drewN_drewN _ _ _) (congrArg (World.drewN _) (Nat.add_assoc _ _ _))⟩)))
                       repeat (go_quiet (first | (go_at_call 14; (with_reducible refine (systems_Break.calls _ _ x12_2 _ _ x13_2 (wrap64 (ji13 * a2)) t323 t324 _ ?side1 ?side2 ?side3 ?side4 A37.out).mono ?_); (case side1 => repeat (first | exact (Kd.R_reads' HO_12.out).2.2 | (with_reducible refine Kd.C_alloc ?_ _) | (with_reducible refine Kd.C_drewN ?_ _) | (with_reducible refine Kd.C_drew ?_))); (case side2 => exact (Kd.R_reads' HO_12.out).2.1); (case side3 => repeat (first | exact (Kd.R_reads' HO_13.out).2.2 | (with_reducible refine Kd.C_alloc ?_ _) | (with_reducible refine Kd.C_drewN ?_ _) | (with_reducible refine Kd.C_drew ?_))); (case side4 => exact (Kd.R_reads' HO_13.out).2.1); rintro e w43 ⟨v325, rfl, ho0, hb⟩; have n0_ := Aside0.mk (Kd.R_elder' (qR HO_10.out) (Kd.R_base ho0) hb); have n1_ := Aside0.mk (Kd.R_below (qR HO_12.out) hb); have n2_ := Aside0.mk (Kd.R_below (qR HO_13.out) hb); have n3_ := Aside0.mk (Kd.R_lower (Kd.R_new' ho0 (Kd.R_lt (qR HO_10.out))) (below_size (by repeat (first | (with_reducible first | exact HB.out | apply below_alloc | apply pw_below_drewN | apply below_drew1) | exact HB.out)))); have n4_ := Aside0.mk (below_step (by repeat (first | (with_reducible first | exact HB.out | apply below_alloc | apply pw_below_drewN | apply below_drew1) | exact HB.out)) hb); clear HO_10; clear HO_12; clear HO_13; clear HB; have HO_10 := n0_; have HO_12 := n1_; have HO_13 := n2_; have HO326 := n3_; have HB := n4_; clear n0_ n1_ n2_ n3_ n4_; (try clear hb); (try clear hb2); (try clear hk); (try clear hi); (try clear ho0); obtain ⟨Ao44, co44, eo44⟩ := Kd.R_slice HO_10.out; subst eo44; obtain ⟨Ao45, co45, eo45⟩ := Kd.R_slice HO326.out; subst eo45) | (go_at_call 16; (with_reducible refine (partitaref25_Same.calls kj24 _ _ t310 _ _ t323 t327 _ ?side1 ?side2 ?side3 ?side4 A40.out).mono ?_); (case side1 => repeat (first | exact (Kd.R_reads' HO_10.out).2.2 | (with_reducible refine Kd.C_alloc ?_ _) | (with_reducible refine Kd.C_drewN ?_ _) | (with_reducible refine Kd.C_drew ?_))); (case side2 => exact (Kd.R_reads' HO_10.out).2.1); (case side3 => repeat (first | exact (Kd.R_reads' HO326.out).2.2 | (with_reducible refine Kd.C_alloc ?_ _) | (with_reducible refine Kd.C_drewN ?_ _) | (with_reducible refine Kd.C_drew ?_))); (case side4 => exact (Kd.R_reads' HO326.out).2.1); rintro e w' ⟨rfl, ⟨nd, rfl⟩⟩; (try first | exact ⟨rfl, _, World.drewN_drewN _ _ _⟩ | exact ⟨rfl, _, Eq.trans (World.drewN_drewN _ _ _) (congrArg (World.drewN _) (Nat.add_assoc _ _ _))⟩))); try go_wp2_with (first | (go_at_call 11; (with_reducible refine (Few_cut _ _ _ _ _ _ (by assumption) (by assumption) (by first | exact HC0.out | exact HC1.out)).mono ?_); rintro e w' ⟨rfl, rfl⟩) | (go_at_call 14; (with_reducible refine (systems_Break.calls _ _ x12_2 _ _ x13_2 (wrap64 (ji13 * a2)) t323 t324 _ ?side1 ?side2 ?side3 ?side4 A37.out).mono ?_); (case side1 => repeat (first | exact (Kd.R_reads' HO_12.out).2.2 | (with_reducible refine Kd.C_alloc ?_ _) | (with_reducible refine Kd.C_drewN ?_ _) | (with_reducible refine Kd.C_drew ?_))); (case side2 => exact (Kd.R_reads' HO_12.out).2.1); (case side3 => repeat (first | exact (Kd.R_reads' HO_13.out).2.2 | (with_reducible refine Kd.C_alloc ?_ _) | (with_reducible refine Kd.C_drewN ?_ _) | (with_reducible refine Kd.C_drew ?_))); (case side4 => exact (Kd.R_reads' HO_13.out).2.1); rintro e w43 ⟨v325, rfl, ho0, hb⟩; have n0_ := Aside0.mk (Kd.R_elder' (qR HO_10.out) (Kd.R_base ho0) hb); have n1_ := Aside0.mk (Kd.R_below (qR HO_12.out) hb); have n2_ := Aside0.mk (Kd.R_below (qR HO_13.out) hb); have n3_ := Aside0.mk (Kd.R_lower (Kd.R_new' ho0 (Kd.R_lt (qR HO_10.out))) (below_size (by repeat (first | (with_reducible first | exact HB.out | apply below_alloc | apply pw_below_drewN | apply below_drew1) | exact HB.out)))); have n4_ := Aside0.mk (below_step (by repeat (first | (with_reducible first | exact HB.out | apply below_alloc | apply pw_below_drewN | apply below_drew1) | exact HB.out)) hb); clear HO_10; clear HO_12; clear HO_13; clear HB; have HO_10 := n0_; have HO_12 := n1_; have HO_13 := n2_; have HO326 := n3_; have HB := n4_; clear n0_ n1_ n2_ n3_ n4_; (try clear hb); (try clear hb2); (try clear hk); (try clear hi); (try clear ho0); obtain ⟨Ao44, co44, eo44⟩ := Kd.R_slice HO_10.out; subst eo44; obtain ⟨Ao45, co45, eo45⟩ := Kd.R_slice HO326.out; subst eo45) | (go_at_call 16; (with_reducible refine (partitaref25_Same.calls kj24 _ _ t310 _ _ t323 t327 _ ?side1 ?side2 ?side3 ?side4 A40.out).mono ?_); (case side1 => repeat (first | exact (Kd.R_reads' HO_10.out).2.2 | (with_reducible refine Kd.C_alloc ?_ _) | (with_reducible refine Kd.C_drewN ?_ _) | (with_reducible refine Kd.C_drew ?_))); (case side2 => exact (Kd.R_reads' HO_10.out).2.1); (case side3 => repeat (first | exact (Kd.R_reads' HO326.out).2.2 | (with_reducible refine Kd.C_alloc ?_ _) | (with_reducible refine Kd.C_drewN ?_ _) | (with_reducible refine Kd.C_drew ?_))); (case side4 => exact (Kd.R_reads' HO326.out).2.1); rintro e w' ⟨rfl, ⟨nd, rfl⟩⟩; (try first | exact ⟨rfl, _, World.drewN_drewN _ _ _⟩ | exact ⟨rfl, _, Eq.trans (World.drewN_drewN _ _ _) (congrArg (World.drewN _) (Nat.add_assoc _ _ _))⟩))))
                       go_ret
                       exact ⟨by first | rfl | (simp [errW_none, errW_some] <;> rfl) | (simp only [← hji6, ← hji9, ← hji12, ← hji13]; first | rfl | (simp [errW_none, errW_some] <;> rfl)) | (simp [*, errW_none, errW_some] <;> rfl), by repeat (first | (with_reducible first | exact HB.out | apply below_alloc | apply pw_below_drewN | apply below_drew1) | exact HB.out)⟩
                     · rw [if_neg c39] at H
                       cases H
                   · replace c38 := Bool.eq_false_iff.mpr c38
                     subst c38
                     have H1 : none = some r := by rw [if_neg (show ¬ (false = true) by decide)] at H; exact H
                     cases H1
       · rw [if_neg c11] at H
         exact absurd H (by simp)
     · rw [if_neg c10] at H
       exact absurd H (by simp)
   · rw [if_neg c8] at H
     exact absurd H (by simp)
 · rw [if_neg c7] at H
   exact absurd H (by simp)

end Go.Proofs.YtneaoicjbiebkaaDoor.Q
