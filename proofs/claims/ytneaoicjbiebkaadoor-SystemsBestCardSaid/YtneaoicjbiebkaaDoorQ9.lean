-- Written by a program of this session (myprint.py), function by function.
import Derived.Test.YtneaoicjbiebkaaDoorQ0
import Derived.Test.YtneaoicjbiebkaaDoorQ3
import Derived.Test.YtneaoicjbiebkaaDoorQ4
import Derived.Test.YtneaoicjbiebkaaDoorQ8
import Derived.Test.YtneaoicjbiebkaaDoorFew
namespace Go.Proofs.YtneaoicjbiebkaaDoor.Q
open Go.RowKit Go.Proofs.YtneaoicjbiebkaaDoorW.PrintWords Go.Proofs.YtneaoicjbiebkaaDoorW.PrintLast Go.Proofs.YtneaoicjbiebkaaDoorW.PrintMore
attribute [local go_sem] max2_int min2_int max_two min_two max_three min_three max_four min_four   -- for this text's walks alone
set_option linter.unusedVariables false
set_option linter.unusedSimpArgs false

/-! ### partitalaw25_SystemsBest: function 4 -/
def partitalaw25_SystemsBest.j0 : Nat → List Int → List Int → Int → List Int → Bool → List (S38) → Bool → Option (Bool)
 | 0, _, _, _, _, _, _, _ => none
 | k + 1, x0, x1, x2, x3, x9, x10, x44 => if x44 = true then (if x9 = true then (some ((x10.length : Int) == 0)) else none) else ((partitalaw25_laid.f k x0 x1 x2 x3).bind fun bt241 => (if x9 = true then (if bt241.2 = true then ((partitaref25_Total.f k x10).bind fun t245 => ((partitaref25_Total.f k bt241.1).bind fun t246 => (some (decide (t245 ≤ t246))))) else (some true)) else none))
def partitalaw25_SystemsBest.f (k : Nat) (l0 : List Int) (l1 : List Int) (a2 : Int) (l3 : List Int) : Option (Bool) := (partitalaw25_shown.f k).bind fun t224 => (if 0 ≤ (mn (l0.length : Int) 101) then (if (mn (l0.length : Int) 101) ≤ (l0.length : Int) then ((some (l0.take ((mn (l0.length : Int) 101) : Int).toNat : List Int)).bind fun y225 => (if 0 ≤ (mn (l1.length : Int) 101) then (if (mn (l1.length : Int) 101) ≤ (l1.length : Int) then ((some (l1.take ((mn (l1.length : Int) 101) : Int).toNat : List Int)).bind fun y229 => (if 0 ≤ (mn (l3.length : Int) 100) then (if (mn (l3.length : Int) 100) ≤ (l3.length : Int) then ((some (l3.take ((mn (l3.length : Int) 100) : Int).toNat : List Int)).bind fun y233 => ((systems_Break.f y225 y229 a2).bind fun bt237 => (if bt237.2 = 0 then (if (y225.length : Int) = 0 then (partitalaw25_SystemsBest.j0 k y225 y229 a2 y233 t224 bt237.1 true) else (partitalaw25_SystemsBest.j0 k y225 y229 a2 y233 t224 bt237.1 ((y229.length : Int) != (y225.length : Int)))) else (partitalaw25_SystemsBest.j0 k y225 y229 a2 y233 t224 bt237.1 true)))) else (none)) else (none))) else (none)) else (none))) else (none)) else (none))
theorem partitalaw25_SystemsBest.mono_l : ∀ k, (∀ y0 y1 y2 y3 y4 y5 y6, LeO (partitalaw25_SystemsBest.j0 k y0 y1 y2 y3 y4 y5 y6) (partitalaw25_SystemsBest.j0 (k + 1) y0 y1 y2 y3 y4 y5 y6))
 | 0 => fun _ _ _ _ _ _ _ r h => by simp [partitalaw25_SystemsBest.j0] at h
 | k + 1 => by
  have ih0 := partitalaw25_SystemsBest.mono_l k
  · intro y0 y1 y2 y3 y4 y5 y6
    unfold partitalaw25_SystemsBest.j0
    repeat' first
    | (with_reducible exact ih0 _ _ _ _ _ _ _)
    | (with_reducible exact partitalaw25_laid.mono _ _ _ _ _)
    | (with_reducible exact partitalaw25_shown.mono _)
    | (with_reducible exact partitaref25_Total.mono _ _)
    | (with_reducible exact LeO.refl _)
    | (with_reducible exact LeO.none _)
    | (with_reducible refine LeO.ite ?_ ?_)
    | (with_reducible refine LeO.bind ?_ (fun _ => ?_))
    | exact ih0 _ _ _ _ _ _ _
    | exact partitalaw25_laid.mono _ _ _ _ _
    | exact partitalaw25_shown.mono _
    | exact partitaref25_Total.mono _ _
    | exact LeO.none _
    | refine LeO.ite ?_ ?_
    | refine LeO.bind ?_ (fun _ => ?_)
theorem partitalaw25_SystemsBest.mono : ∀ a0 a1 a2 a3 k, LeO (partitalaw25_SystemsBest.f k a0 a1 a2 a3) (partitalaw25_SystemsBest.f (k + 1) a0 a1 a2 a3) := by
 intro a0 a1 a2 a3 k
 have ih0 := partitalaw25_SystemsBest.mono_l k
 unfold partitalaw25_SystemsBest.f
 repeat' first
  | (with_reducible exact ih0 _ _ _ _ _ _ _)
  | (with_reducible exact partitalaw25_laid.mono _ _ _ _ _)
  | (with_reducible exact partitalaw25_shown.mono _)
  | (with_reducible exact partitaref25_Total.mono _ _)
  | (with_reducible exact LeO.refl _)
  | (with_reducible exact LeO.none _)
  | (with_reducible refine LeO.ite ?_ ?_)
  | (with_reducible refine LeO.bind ?_ (fun _ => ?_))
  | exact ih0 _ _ _ _ _ _ _
  | exact partitalaw25_laid.mono _ _ _ _ _
  | exact partitalaw25_shown.mono _
  | exact partitaref25_Total.mono _ _
  | exact LeO.none _
  | refine LeO.ite ?_ ?_
  | refine LeO.bind ?_ (fun _ => ?_)
set_option maxHeartbeats 8000000 in
set_option maxRecDepth 100000 in
theorem partitalaw25_SystemsBest.calls (k : Nat) (A0 : Option Addr) (c0 : Nat) (l0 : List Int) (A1 : Option Addr) (c1 : Nat) (l1 : List Int) (a2 : Int) (A3 : Option Addr) (c3 : Nat) (l3 : List Int) (r : Bool) (w : World) (hr0 : Kd.C (Kd.int .i64) w A0 l0.length l0) (hc0 : l0.length ≤ c0) (hr1 : Kd.C (Kd.int .i64) w A1 l1.length l1) (hc1 : l1.length ≤ c1) (hr3 : Kd.C (Kd.int .i64) w A3 l3.length l3) (hc3 : l3.length ≤ c3) (h : partitalaw25_SystemsBest.f k l0 l1 a2 l3 = some r) (SENTS : Aside0 (SentsE w) := by exact sents_step (by assumption) (by repeat (first | (with_reducible first | exact (by assumption : Aside0 (Below _ _ _)).out | apply below_alloc | apply pw_below_drewN | apply below_drew1)))) :
 Calls Tryd.prog 4 #[.slice A0 l0.length c0, .slice A1 l1.length c1, .int .i64 a2, .slice A3 l3.length c3] w fun e w' => e = .returned (.bool r) ∧ Below w.heap.size w w' := by
 have HR0 := Aside0.mk hr0
 have HC0 := Aside0.mk hc0
 clear hr0 hc0
 have HR1 := Aside0.mk hr1
 have HC1 := Aside0.mk hc1
 clear hr1 hc1
 have HR3 := Aside0.mk hr3
 have HC3 := Aside0.mk hc3
 clear hr3 hc3
 have HB := Aside0.mk (Below.refl w.heap.size w)
 have H : ((partitalaw25_shown.f k).bind fun t224 => (if 0 ≤ (mn (l0.length : Int) 101) then (if (mn (l0.length : Int) 101) ≤ (l0.length : Int) then ((some (l0.take ((mn (l0.length : Int) 101) : Int).toNat : List Int)).bind fun y225 => (if 0 ≤ (mn (l1.length : Int) 101) then (if (mn (l1.length : Int) 101) ≤ (l1.length : Int) then ((some (l1.take ((mn (l1.length : Int) 101) : Int).toNat : List Int)).bind fun y229 => (if 0 ≤ (mn (l3.length : Int) 100) then (if (mn (l3.length : Int) 100) ≤ (l3.length : Int) then ((some (l3.take ((mn (l3.length : Int) 100) : Int).toNat : List Int)).bind fun y233 => ((systems_Break.f y225 y229 a2).bind fun bt237 => (if bt237.2 = 0 then (if (y225.length : Int) = 0 then (partitalaw25_SystemsBest.j0 k y225 y229 a2 y233 t224 bt237.1 true) else (partitalaw25_SystemsBest.j0 k y225 y229 a2 y233 t224 bt237.1 ((y229.length : Int) != (y225.length : Int)))) else (partitalaw25_SystemsBest.j0 k y225 y229 a2 y233 t224 bt237.1 true)))) else (none)) else (none))) else (none)) else (none))) else (none)) else (none))) = some r := h
 clear h
 replace H := Option.bind_eq_some_iff.mp H
 obtain ⟨t224, A50, H⟩ := H
 replace H : (if 0 ≤ (mn (l0.length : Int) 101) then (if (mn (l0.length : Int) 101) ≤ (l0.length : Int) then ((some (l0.take ((mn (l0.length : Int) 101) : Int).toNat : List Int)).bind fun y225 => (if 0 ≤ (mn (l1.length : Int) 101) then (if (mn (l1.length : Int) 101) ≤ (l1.length : Int) then ((some (l1.take ((mn (l1.length : Int) 101) : Int).toNat : List Int)).bind fun y229 => (if 0 ≤ (mn (l3.length : Int) 100) then (if (mn (l3.length : Int) 100) ≤ (l3.length : Int) then ((some (l3.take ((mn (l3.length : Int) 100) : Int).toNat : List Int)).bind fun y233 => ((systems_Break.f y225 y229 a2).bind fun bt237 => (if bt237.2 = 0 then (if (y225.length : Int) = 0 then (partitalaw25_SystemsBest.j0 k y225 y229 a2 y233 t224 bt237.1 true) else (partitalaw25_SystemsBest.j0 k y225 y229 a2 y233 t224 bt237.1 ((y229.length : Int) != (y225.length : Int)))) else (partitalaw25_SystemsBest.j0 k y225 y229 a2 y233 t224 bt237.1 true)))) else (none)) else (none))) else (none)) else (none))) else (none)) else (none)) = some r := H
 have A5 := Aside0.mk A50
 clear A50
 obtain ⟨ji6, hji6⟩ : ∃ j_ : Int, (mn (l0.length : Int) 101) = j_ := ⟨_, rfl⟩
 replace H : (if 0 ≤ (ji6) then (if (ji6) ≤ (l0.length : Int) then ((some (l0.take ((ji6) : Int).toNat : List Int)).bind fun y225 => (if 0 ≤ (mn (l1.length : Int) 101) then (if (mn (l1.length : Int) 101) ≤ (l1.length : Int) then ((some (l1.take ((mn (l1.length : Int) 101) : Int).toNat : List Int)).bind fun y229 => (if 0 ≤ (mn (l3.length : Int) 100) then (if (mn (l3.length : Int) 100) ≤ (l3.length : Int) then ((some (l3.take ((mn (l3.length : Int) 100) : Int).toNat : List Int)).bind fun y233 => ((systems_Break.f y225 y229 a2).bind fun bt237 => (if bt237.2 = 0 then (if (y225.length : Int) = 0 then (partitalaw25_SystemsBest.j0 k y225 y229 a2 y233 t224 bt237.1 true) else (partitalaw25_SystemsBest.j0 k y225 y229 a2 y233 t224 bt237.1 ((y229.length : Int) != (y225.length : Int)))) else (partitalaw25_SystemsBest.j0 k y225 y229 a2 y233 t224 bt237.1 true)))) else (none)) else (none))) else (none)) else (none))) else (none)) else (none)) = some r := by first | (rw [hji6] at H; exact H) | (simp only [hji6] at H ⊢; exact H)
 (try rw [hji6] at A5)
 (try (have hji6h : ji6 ≤ 101 := by (rw [← hji6]; unfold mn; (repeat' split) <;> omega)))
 (try (have hji6g : ji6 ≤ 64 := by omega))
 (try (have hji6l : 0 ≤ ji6 := by (rw [← hji6]; unfold mn; (repeat' split) <;> omega)))
 (try (have hji6m : 0 ≤ ji6 := by omega))
 have hji6_ : (if 101 < (l0.length : Int) then 101 else (l0.length : Int)) = ji6 := hji6
 by_cases c7 : 0 ≤ (ji6)
 · rw [if_pos c7] at H
   have c7b0 := eq_true c7
   have c7b1 : decide (0 ≤ (ji6)) = true := decide_eq_true c7
   clear c7
   by_cases c8 : (ji6) ≤ (l0.length : Int)
   · rw [if_pos c8] at H
     have c8b0 := eq_true c8
     have c8b1 : decide ((ji6) ≤ (l0.length : Int)) = true := decide_eq_true c8
     clear c8
     obtain ⟨y225, hy225⟩ : ∃ y_ : List Int, y_ = (l0.take ((ji6) : Int).toNat) := ⟨_, rfl⟩
     replace H : (if 0 ≤ (mn (l1.length : Int) 101) then (if (mn (l1.length : Int) 101) ≤ (l1.length : Int) then ((some (l1.take ((mn (l1.length : Int) 101) : Int).toNat : List Int)).bind fun y229 => (if 0 ≤ (mn (l3.length : Int) 100) then (if (mn (l3.length : Int) 100) ≤ (l3.length : Int) then ((some (l3.take ((mn (l3.length : Int) 100) : Int).toNat : List Int)).bind fun y233 => ((systems_Break.f y225 y229 a2).bind fun bt237 => (if bt237.2 = 0 then (if (y225.length : Int) = 0 then (partitalaw25_SystemsBest.j0 k y225 y229 a2 y233 t224 bt237.1 true) else (partitalaw25_SystemsBest.j0 k y225 y229 a2 y233 t224 bt237.1 ((y229.length : Int) != (y225.length : Int)))) else (partitalaw25_SystemsBest.j0 k y225 y229 a2 y233 t224 bt237.1 true)))) else (none)) else (none))) else (none)) else (none)) = some r := by first | (rw [hy225]; with_reducible exact H) | (have H2_ := (Option.bind_some _ _).symm.trans H; rw [hy225]; with_reducible exact H2_) | (have H2_ := (Option.bind_some _ _).symm.trans H; with_reducible exact H2_) | with_reducible exact H | (rw [hy225]; exact H) | exact H
     have Ny225 := Aside0.mk hy225
     clear hy225
     obtain ⟨ji9, hji9⟩ : ∃ j_ : Int, (mn (l1.length : Int) 101) = j_ := ⟨_, rfl⟩
     replace H : (if 0 ≤ (ji9) then (if (ji9) ≤ (l1.length : Int) then ((some (l1.take ((ji9) : Int).toNat : List Int)).bind fun y229 => (if 0 ≤ (mn (l3.length : Int) 100) then (if (mn (l3.length : Int) 100) ≤ (l3.length : Int) then ((some (l3.take ((mn (l3.length : Int) 100) : Int).toNat : List Int)).bind fun y233 => ((systems_Break.f y225 y229 a2).bind fun bt237 => (if bt237.2 = 0 then (if (y225.length : Int) = 0 then (partitalaw25_SystemsBest.j0 k y225 y229 a2 y233 t224 bt237.1 true) else (partitalaw25_SystemsBest.j0 k y225 y229 a2 y233 t224 bt237.1 ((y229.length : Int) != (y225.length : Int)))) else (partitalaw25_SystemsBest.j0 k y225 y229 a2 y233 t224 bt237.1 true)))) else (none)) else (none))) else (none)) else (none)) = some r := by first | (rw [hji9] at H; exact H) | (simp only [hji9] at H ⊢; exact H)
     (try rw [hji9] at A5)
     (try (have hji9h : ji9 ≤ 101 := by (rw [← hji9]; unfold mn; (repeat' split) <;> omega)))
     (try (have hji9g : ji9 ≤ 64 := by omega))
     (try (have hji9l : 0 ≤ ji9 := by (rw [← hji9]; unfold mn; (repeat' split) <;> omega)))
     (try (have hji9m : 0 ≤ ji9 := by omega))
     have hji9_ : (if 101 < (l1.length : Int) then 101 else (l1.length : Int)) = ji9 := hji9
     by_cases c10 : 0 ≤ (ji9)
     · rw [if_pos c10] at H
       have c10b0 := eq_true c10
       have c10b1 : decide (0 ≤ (ji9)) = true := decide_eq_true c10
       clear c10
       by_cases c11 : (ji9) ≤ (l1.length : Int)
       · rw [if_pos c11] at H
         have c11b0 := eq_true c11
         have c11b1 : decide ((ji9) ≤ (l1.length : Int)) = true := decide_eq_true c11
         clear c11
         obtain ⟨y229, hy229⟩ : ∃ y_ : List Int, y_ = (l1.take ((ji9) : Int).toNat) := ⟨_, rfl⟩
         replace H : (if 0 ≤ (mn (l3.length : Int) 100) then (if (mn (l3.length : Int) 100) ≤ (l3.length : Int) then ((some (l3.take ((mn (l3.length : Int) 100) : Int).toNat : List Int)).bind fun y233 => ((systems_Break.f y225 y229 a2).bind fun bt237 => (if bt237.2 = 0 then (if (y225.length : Int) = 0 then (partitalaw25_SystemsBest.j0 k y225 y229 a2 y233 t224 bt237.1 true) else (partitalaw25_SystemsBest.j0 k y225 y229 a2 y233 t224 bt237.1 ((y229.length : Int) != (y225.length : Int)))) else (partitalaw25_SystemsBest.j0 k y225 y229 a2 y233 t224 bt237.1 true)))) else (none)) else (none)) = some r := by first | (rw [hy229]; with_reducible exact H) | (have H2_ := (Option.bind_some _ _).symm.trans H; rw [hy229]; with_reducible exact H2_) | (have H2_ := (Option.bind_some _ _).symm.trans H; with_reducible exact H2_) | with_reducible exact H | (rw [hy229]; exact H) | exact H
         have Ny229 := Aside0.mk hy229
         clear hy229
         obtain ⟨ji12, hji12⟩ : ∃ j_ : Int, (mn (l3.length : Int) 100) = j_ := ⟨_, rfl⟩
         replace H : (if 0 ≤ (ji12) then (if (ji12) ≤ (l3.length : Int) then ((some (l3.take ((ji12) : Int).toNat : List Int)).bind fun y233 => ((systems_Break.f y225 y229 a2).bind fun bt237 => (if bt237.2 = 0 then (if (y225.length : Int) = 0 then (partitalaw25_SystemsBest.j0 k y225 y229 a2 y233 t224 bt237.1 true) else (partitalaw25_SystemsBest.j0 k y225 y229 a2 y233 t224 bt237.1 ((y229.length : Int) != (y225.length : Int)))) else (partitalaw25_SystemsBest.j0 k y225 y229 a2 y233 t224 bt237.1 true)))) else (none)) else (none)) = some r := by first | (rw [hji12] at H; exact H) | (simp only [hji12] at H ⊢; exact H)
         (try rw [hji12] at A5)
         (try (have hji12h : ji12 ≤ 100 := by (rw [← hji12]; unfold mn; (repeat' split) <;> omega)))
         (try (have hji12g : ji12 ≤ 64 := by omega))
         (try (have hji12l : 0 ≤ ji12 := by (rw [← hji12]; unfold mn; (repeat' split) <;> omega)))
         (try (have hji12m : 0 ≤ ji12 := by omega))
         have hji12_ : (if 100 < (l3.length : Int) then 100 else (l3.length : Int)) = ji12 := hji12
         by_cases c13 : 0 ≤ (ji12)
         · rw [if_pos c13] at H
           have c13b0 := eq_true c13
           have c13b1 : decide (0 ≤ (ji12)) = true := decide_eq_true c13
           clear c13
           by_cases c14 : (ji12) ≤ (l3.length : Int)
           · rw [if_pos c14] at H
             have c14b0 := eq_true c14
             have c14b1 : decide ((ji12) ≤ (l3.length : Int)) = true := decide_eq_true c14
             clear c14
             obtain ⟨y233, hy233⟩ : ∃ y_ : List Int, y_ = (l3.take ((ji12) : Int).toNat) := ⟨_, rfl⟩
             replace H : ((systems_Break.f y225 y229 a2).bind fun bt237 => (if bt237.2 = 0 then (if (y225.length : Int) = 0 then (partitalaw25_SystemsBest.j0 k y225 y229 a2 y233 t224 bt237.1 true) else (partitalaw25_SystemsBest.j0 k y225 y229 a2 y233 t224 bt237.1 ((y229.length : Int) != (y225.length : Int)))) else (partitalaw25_SystemsBest.j0 k y225 y229 a2 y233 t224 bt237.1 true))) = some r := by first | (rw [hy233]; with_reducible exact H) | (have H2_ := (Option.bind_some _ _).symm.trans H; rw [hy233]; with_reducible exact H2_) | (have H2_ := (Option.bind_some _ _).symm.trans H; with_reducible exact H2_) | with_reducible exact H | (rw [hy233]; exact H) | exact H
             have Ny233 := Aside0.mk hy233
             clear hy233
             replace H := Option.bind_eq_some_iff.mp H
             obtain ⟨⟨t237, t238⟩, A150, H⟩ := H
             replace H : (if t238 = 0 then (if (y225.length : Int) = 0 then (partitalaw25_SystemsBest.j0 k y225 y229 a2 y233 t224 t237 true) else (partitalaw25_SystemsBest.j0 k y225 y229 a2 y233 t224 t237 ((y229.length : Int) != (y225.length : Int)))) else (partitalaw25_SystemsBest.j0 k y225 y229 a2 y233 t224 t237 true)) = some r := H
             have A15 := Aside0.mk A150
             clear A150
             have HC16 := Aside0.mk H
             clear H
             go_enter Tryd.func4, Tryd.ntmps4
             go_upto_region 6 with (first | (go_at_call 11; (with_reducible refine (Few_cut _ _ _ _ _ _ (by assumption) (by assumption) (by first | exact HC0.out | exact HC1.out)).mono ?_); rintro e w' ⟨rfl, rfl⟩) | ((with_reducible refine gate_callee (f := 10) rfl ?_); refine goesL_ (some 14) rfl rfl Tryd.func10 (by kernel_rfl) rfl #[] rfl (by (try simp only [List.map_toArray, List.map_cons, List.map_nil]); first | done | rfl | (simp only [List.length_drop, List.length_take]; rfl)) ?_; (with_reducible refine (partitalaw25_shown.calls k  t224 _ A5.out).mono ?_); rintro e w17 ⟨rfl, hb⟩; refine ⟨_, rfl, ?_⟩; have n0_ := Aside0.mk (below_step (by repeat (first | (with_reducible first | exact HB.out | apply below_alloc | apply pw_below_drewN | apply below_drew1) | exact HB.out)) hb); clear HB; have HB := n0_; clear n0_; (try clear hb); (try clear hb2); (try clear hk); (try clear hi); have q18 : ((ji6) : Int) ≤ ((l0.length : Int) : Int) := of_decide_eq_true (by first | (with_reducible assumption) | assumption); obtain ⟨i018, hi018, _, hsz18, _⟩ := info_parts info3; have hroom18 : l0.length ≤ c0 := HC0.out; have hC18 : Kd.C (Kd.int .i64) _ A0 l0.length l0 := HR0.out; have hcut18 := cut_to (P := Tryd.prog) 22 3 .i64 Tryd.underlying22 hi018 A0 l0.length c0 (ji6) (of_decide_eq_true (by first | (with_reducible assumption) | assumption)) q18 hroom18; have hr18 := Kd.C_take (m := ((ji6) : Int).toNat) hC18 (by omega); have hy18 : y225.length = ((ji6) : Int).toNat := (by rw [Ny225.out, List.length_take]; omega); rw [← Ny225.out] at hr18; rw [← hy18] at hcut18; have HR228 := Aside0.mk hr18; have HC228 := Aside0.mk (show y225.length ≤ c0 from by omega); clear hr18 hC18 hroom18 hi018 hsz18; have KY18 := Aside0.mk hy18; clear hy18; replace q18 := eq_true q18; have q19 : ((ji9) : Int) ≤ ((l1.length : Int) : Int) := of_decide_eq_true (by first | (with_reducible assumption) | assumption); obtain ⟨i019, hi019, _, hsz19, _⟩ := info_parts info3; have hroom19 : l1.length ≤ c1 := HC1.out; have hC19 : Kd.C (Kd.int .i64) _ A1 l1.length l1 := HR1.out; have hcut19 := cut_to (P := Tryd.prog) 22 3 .i64 Tryd.underlying22 hi019 A1 l1.length c1 (ji9) (of_decide_eq_true (by first | (with_reducible assumption) | assumption)) q19 hroom19; have hr19 := Kd.C_take (m := ((ji9) : Int).toNat) hC19 (by omega); have hy19 : y229.length = ((ji9) : Int).toNat := (by rw [Ny229.out, List.length_take]; omega); rw [← Ny229.out] at hr19; rw [← hy19] at hcut19; have HR232 := Aside0.mk hr19; have HC232 := Aside0.mk (show y229.length ≤ c1 from by omega); clear hr19 hC19 hroom19 hi019 hsz19; have KY19 := Aside0.mk hy19; clear hy19; replace q19 := eq_true q19; have q20 : ((ji12) : Int) ≤ ((l3.length : Int) : Int) := of_decide_eq_true (by first | (with_reducible assumption) | assumption); obtain ⟨i020, hi020, _, hsz20, _⟩ := info_parts info3; have hroom20 : l3.length ≤ c3 := HC3.out; have hC20 : Kd.C (Kd.int .i64) _ A3 l3.length l3 := HR3.out; have hcut20 := cut_to (P := Tryd.prog) 22 3 .i64 Tryd.underlying22 hi020 A3 l3.length c3 (ji12) (of_decide_eq_true (by first | (with_reducible assumption) | assumption)) q20 hroom20; have hr20 := Kd.C_take (m := ((ji12) : Int).toNat) hC20 (by omega); have hy20 : y233.length = ((ji12) : Int).toNat := (by rw [Ny233.out, List.length_take]; omega); rw [← Ny233.out] at hr20; rw [← hy20] at hcut20; have HR236 := Aside0.mk hr20; have HC236 := Aside0.mk (show y233.length ≤ c3 from by omega); clear hr20 hC20 hroom20 hi020 hsz20; have KY20 := Aside0.mk hy20; clear hy20; replace q20 := eq_true q20) | ((with_reducible refine gate_callee (f := 14) rfl ?_); refine goesL_ (some 28) rfl rfl Tryd.func14 (by kernel_rfl) rfl #[.slice A0 y225.length c0, .slice A1 y229.length c1, .int .i64 a2] rfl (by (try simp only [List.map_toArray, List.map_cons, List.map_nil]); first | done | rfl | (simp only [List.length_drop, List.length_take]; rfl)) ?_; (with_reducible refine (systems_Break.calls _ _ y225 _ _ y229 a2 t237 t238 _ ?side1 ?side2 ?side3 ?side4 A15.out).mono ?_); (case side1 => repeat (first | exact (Kd.C_below HR228.out HB.out) | (with_reducible refine Kd.C_alloc ?_ _) | (with_reducible refine Kd.C_drewN ?_ _) | (with_reducible refine Kd.C_drew ?_))); (case side2 => exact HC228.out); (case side3 => repeat (first | exact (Kd.C_below HR232.out HB.out) | (with_reducible refine Kd.C_alloc ?_ _) | (with_reducible refine Kd.C_drewN ?_ _) | (with_reducible refine Kd.C_drew ?_))); (case side4 => exact HC232.out); rintro e w21 ⟨v239, rfl, ho0, hb⟩; refine ⟨_, rfl, ?_⟩; have n0_ := Aside0.mk (Kd.R_lower ho0 (below_size (by repeat (first | (with_reducible first | exact HB.out | apply below_alloc | apply pw_below_drewN | apply below_drew1) | exact HB.out)))); have n1_ := Aside0.mk (below_step (by repeat (first | (with_reducible first | exact HB.out | apply below_alloc | apply pw_below_drewN | apply below_drew1) | exact HB.out)) hb); clear HB; have HO240 := n0_; have HB := n1_; clear n0_ n1_; (try clear hb); (try clear hb2); (try clear hk); (try clear hi); (try clear ho0)))
             (try simp only [Act.put, qa_, qz_, qs_])
             go_cut [44] (fun v44 wc => ∃ (kq : Nat) (x44_15 : Bool), v44 = .bool x44_15 ∧ Aside0 (partitalaw25_SystemsBest.j0 kq y225 y229 a2 y233 t224 t237 x44_15 = some r) ∧ Aside0 (kq ≤ k) ∧ Aside0 (Kd.R k38 38 wc w.heap.size (fun _ => True) v239 t237) ∧ Aside0 (Below w.heap.size w wc))
             case first =>
              have H := HC16.out
              clear HC16
              by_cases c22 : t238 = 0
              · rw [if_pos c22] at H
                have c22b0 : (t238 == 0) = true := beq_iff_eq.mpr c22
                have c22b1 : (t238 != 0) = false := bne_eq_false_iff_eq.mpr c22
                clear c22
                (first | rw [c22b0] | (simp only [i64_w, i32_w]; rw [c22b0]) | skip)
                by_cases c23 : (y225.length : Int) = 0
                · rw [if_pos c23] at H
                  have c23b0 : ((y225.length : Int) == 0) = true := beq_iff_eq.mpr c23
                  have c23b1 : ((y225.length : Int) != 0) = false := bne_eq_false_iff_eq.mpr c23
                  clear c23
                  have H' := Aside0.mk H
                  clear H
                  go_wp2
                  go_meet
                  case rel => exact ⟨_, (true), (by first | rfl | (simp; done) | (simp [*]; done) | (simp [wrap64]; done)), H', ⟨by first | omega | exact Nat.le_refl _⟩, ⟨by (with_reducible repeat (first | apply Kd.R_alloc | apply Kd.R_drewN | apply Kd.R_drew)); exact HO240.out⟩, ⟨by repeat (first | (with_reducible first | exact HB.out | apply below_alloc | apply pw_below_drewN | apply below_drew1) | exact HB.out)⟩⟩
                · rw [if_neg c23] at H
                  have c23b0 : ((y225.length : Int) == 0) = false := beq_eq_false_iff_ne.mpr c23
                  have c23b1 : ((y225.length : Int) != 0) = true := bne_iff_ne.mpr c23
                  have c23b2 : ¬ (y225 = []) := fun h_ => c23 (by rw [h_]; rfl)
                  have H' := Aside0.mk H
                  clear H
                  go_wp2
                  go_meet
                  case rel => exact ⟨_, (((y229.length : Int) != (y225.length : Int))), (by first | rfl | (simp; done) | (simp [*]; done) | (simp [wrap64]; done)), H', ⟨by first | omega | exact Nat.le_refl _⟩, ⟨by (with_reducible repeat (first | apply Kd.R_alloc | apply Kd.R_drewN | apply Kd.R_drew)); exact HO240.out⟩, ⟨by repeat (first | (with_reducible first | exact HB.out | apply below_alloc | apply pw_below_drewN | apply below_drew1) | exact HB.out)⟩⟩
              · rw [if_neg c22] at H
                have c22b0 : (t238 == 0) = false := beq_eq_false_iff_ne.mpr c22
                have c22b1 : (t238 != 0) = true := bne_iff_ne.mpr c22
                (first | rw [c22b0] | (simp only [i64_w, i32_w]; rw [c22b0]) | skip)
                have H' := Aside0.mk H
                clear H
                go_wp2
                go_meet
                case rel => exact ⟨_, (true), (by first | rfl | (simp; done) | (simp [*]; done) | (simp [wrap64]; done)), H', ⟨by first | omega | exact Nat.le_refl _⟩, ⟨by (with_reducible repeat (first | apply Kd.R_alloc | apply Kd.R_drewN | apply Kd.R_drew)); exact HO240.out⟩, ⟨by repeat (first | (with_reducible first | exact HB.out | apply below_alloc | apply pw_below_drewN | apply below_drew1) | exact HB.out)⟩⟩
             case rest =>
              clear HC16
              try clear c1
              try clear q1
              try clear c2
              try clear p2
              try clear q2
              try clear c3
              try clear c4
              try clear c7
              try clear c7b0
              try clear c7b1
              try clear c8
              try clear c8b0
              try clear c8b1
              try clear c10
              try clear c10b0
              try clear c10b1
              try clear c11
              try clear c11b0
              try clear c11b1
              try clear c13
              try clear c13b0
              try clear c13b1
              try clear c14
              try clear c14b0
              try clear c14b1
              try clear q18
              try clear q19
              try clear q20
              try clear c22
              try clear c22b0
              try clear c22b1
              try clear c23
              try clear c23b0
              try clear c23b1
              try clear c23b2
              try clear q18
              try clear q19
              try clear q20
              obtain ⟨kq, x44_15, rfl, HA, HJ15, HO_10, HB⟩ := hcut
              cases kq with
              | zero => exact absurd HA.out (by simp [partitalaw25_SystemsBest.j0])
              | succ kj15 =>
               have H := HA.out
               clear HA
               simp only [partitalaw25_SystemsBest.j0] at H
               by_cases c24 : x44_15 = true
               · subst c24
                 have H1 : (if t224 = true then (some ((t237.length : Int) == 0)) else none) = some r := by rw [if_pos rfl] at H; exact H
                 clear H
                 have H := H1
                 clear H1
                 by_cases c25 : t224 = true
                 · subst c25
                   have H1 : (some ((t237.length : Int) == 0)) = some r := by rw [if_pos rfl] at H; exact H
                   clear H
                   have H := H1
                   clear H1
                   obtain rfl := Option.some.inj H
                   obtain ⟨Ao26, co26, eo26⟩ := Kd.R_slice HO_10.out
                   subst eo26
                   go_wp2
                   go_ret
                   exact ⟨by first | rfl | (simp [errW_none, errW_some] <;> rfl) | (simp only [← hji6, ← hji9, ← hji12]; first | rfl | (simp [errW_none, errW_some] <;> rfl)) | (simp [*, errW_none, errW_some] <;> rfl), by repeat (first | (with_reducible first | exact HB.out | apply below_alloc | apply pw_below_drewN | apply below_drew1) | exact HB.out)⟩
                 · replace c25 := Bool.eq_false_iff.mpr c25
                   subst c25
                   have H1 : none = some r := by rw [if_neg (show ¬ (false = true) by decide)] at H; exact H
                   cases H1
               · replace c24 := Bool.eq_false_iff.mpr c24
                 subst c24
                 have H1 : ((partitalaw25_laid.f kj15 y225 y229 a2 y233).bind fun bt241 => (if t224 = true then (if bt241.2 = true then ((partitaref25_Total.f kj15 t237).bind fun t245 => ((partitaref25_Total.f kj15 bt241.1).bind fun t246 => (some (decide (t245 ≤ t246))))) else (some true)) else none)) = some r := by rw [if_neg (show ¬ (false = true) by decide)] at H; exact H
                 clear H
                 have H := H1
                 clear H1
                 replace H := Option.bind_eq_some_iff.mp H
                 obtain ⟨⟨t241, t242⟩, A270, H⟩ := H
                 replace H : (if t224 = true then (if t242 = true then ((partitaref25_Total.f kj15 t237).bind fun t245 => ((partitaref25_Total.f kj15 t241).bind fun t246 => (some (decide (t245 ≤ t246))))) else (some true)) else none) = some r := H
                 have A27 := Aside0.mk A270
                 clear A270
                 by_cases c28 : t224 = true
                 · subst c28
                   have H1 : (if t242 = true then ((partitaref25_Total.f kj15 t237).bind fun t245 => ((partitaref25_Total.f kj15 t241).bind fun t246 => (some (decide (t245 ≤ t246))))) else (some true)) = some r := by rw [if_pos rfl] at H; exact H
                   clear H
                   have H := H1
                   clear H1
                   by_cases c29 : t242 = true
                   · subst c29
                     have H1 : ((partitaref25_Total.f kj15 t237).bind fun t245 => ((partitaref25_Total.f kj15 t241).bind fun t246 => (some (decide (t245 ≤ t246))))) = some r := by rw [if_pos rfl] at H; exact H
                     clear H
                     have H := H1
                     clear H1
                     replace H := Option.bind_eq_some_iff.mp H
                     obtain ⟨t245, A300, H⟩ := H
                     replace H : ((partitaref25_Total.f kj15 t241).bind fun t246 => (some (decide (t245 ≤ t246)))) = some r := H
                     have A30 := Aside0.mk A300
                     clear A300
                     replace H := Option.bind_eq_some_iff.mp H
                     obtain ⟨t246, A310, H⟩ := H
                     replace H : (some (decide (t245 ≤ t246))) = some r := H
                     have A31 := Aside0.mk A310
                     clear A310
                     obtain rfl := Option.some.inj H
                     go_wp2_with (first | (go_at_call 11; (with_reducible refine (Few_cut _ _ _ _ _ _ (by assumption) (by assumption) (by first | exact HC0.out | exact HC1.out)).mono ?_); rintro e w' ⟨rfl, rfl⟩) | ((with_reducible refine gate_callee (f := 17) rfl ?_); refine goesL_ (some 56) rfl rfl Tryd.func17 (by kernel_rfl) rfl #[(.slice A0 y225.length c0), (.slice A1 y229.length c1), .int .i64 a2, (.slice A3 y233.length c3)] rfl (by (try simp only [List.map_toArray, List.map_cons, List.map_nil]); first | done | rfl | (simp only [List.length_drop, List.length_take]; rfl)) ?_; (with_reducible refine (partitalaw25_laid.calls kj15 _ _ y225 _ _ y229 a2 _ _ y233 t241 true _ ?side1 ?side2 ?side3 ?side4 ?side5 ?side6 A27.out).mono ?_); (case side1 => repeat (first | exact (Kd.C_below HR228.out HB.out) | (with_reducible refine Kd.C_alloc ?_ _) | (with_reducible refine Kd.C_drewN ?_ _) | (with_reducible refine Kd.C_drew ?_))); (case side2 => exact HC228.out); (case side3 => repeat (first | exact (Kd.C_below HR232.out HB.out) | (with_reducible refine Kd.C_alloc ?_ _) | (with_reducible refine Kd.C_drewN ?_ _) | (with_reducible refine Kd.C_drew ?_))); (case side4 => exact HC232.out); (case side5 => repeat (first | exact (Kd.C_below HR236.out HB.out) | (with_reducible refine Kd.C_alloc ?_ _) | (with_reducible refine Kd.C_drewN ?_ _) | (with_reducible refine Kd.C_drew ?_))); (case side6 => exact HC236.out); rintro e w32 ⟨v243, rfl, ho0, hb⟩; refine ⟨_, rfl, ?_⟩; have n0_ := Aside0.mk (Kd.R_elder' (qR HO_10.out) (Kd.R_base ho0) hb); have n1_ := Aside0.mk (Kd.R_lower (Kd.R_new' ho0 (Kd.R_lt (qR HO_10.out))) (below_size (by repeat (first | (with_reducible first | exact HB.out | apply below_alloc | apply pw_below_drewN | apply below_drew1) | exact HB.out)))); have n2_ := Aside0.mk (below_step (by repeat (first | (with_reducible first | exact HB.out | apply below_alloc | apply pw_below_drewN | apply below_drew1) | exact HB.out)) hb); clear HO_10; clear HB; have HO_10 := n0_; have HO244 := n1_; have HB := n2_; clear n0_ n1_ n2_; (try clear hb); (try clear hb2); (try clear hk); (try clear hi); (try clear ho0); obtain ⟨Ao33, co33, eo33⟩ := Kd.R_slice HO_10.out; subst eo33) | (go_at_call 18; (with_reducible refine (partitaref25_Total.calls kj15 _ _ t237 t245 _ ?side1 ?side2 A30.out).mono ?_); (case side1 => repeat (first | exact (Kd.R_reads' HO_10.out).2.2 | (with_reducible refine Kd.C_alloc ?_ _) | (with_reducible refine Kd.C_drewN ?_ _) | (with_reducible refine Kd.C_drew ?_))); (case side2 => exact (Kd.R_reads' HO_10.out).2.1); rintro e w' ⟨rfl, ⟨nd, rfl⟩⟩; obtain ⟨Ao34, co34, eo34⟩ := Kd.R_slice HO244.out; subst eo34) | (go_at_call 18; (with_reducible refine (partitaref25_Total.calls kj15 _ _ t241 t246 _ ?side1 ?side2 A31.out).mono ?_); (case side1 => repeat (first | exact (Kd.R_reads' HO244.out).2.2 | (with_reducible refine Kd.C_alloc ?_ _) | (with_reducible refine Kd.C_drewN ?_ _) | (with_reducible refine Kd.C_drew ?_))); (case side2 => exact (Kd.R_reads' HO244.out).2.1); rintro e w' ⟨rfl, ⟨nd, rfl⟩⟩))
                     go_ret
                     exact ⟨by first | rfl | (simp [errW_none, errW_some] <;> rfl) | (simp only [← hji6, ← hji9, ← hji12]; first | rfl | (simp [errW_none, errW_some] <;> rfl)) | (simp [*, errW_none, errW_some] <;> rfl), by repeat (first | (with_reducible first | exact HB.out | apply below_alloc | apply pw_below_drewN | apply below_drew1) | exact HB.out)⟩
                   · replace c29 := Bool.eq_false_iff.mpr c29
                     subst c29
                     have H1 : (some true) = some r := by rw [if_neg (show ¬ (false = true) by decide)] at H; exact H
                     clear H
                     have H := H1
                     clear H1
                     obtain rfl := Option.some.inj H
                     go_wp2_with (first | (go_at_call 11; (with_reducible refine (Few_cut _ _ _ _ _ _ (by assumption) (by assumption) (by first | exact HC0.out | exact HC1.out)).mono ?_); rintro e w' ⟨rfl, rfl⟩) | ((with_reducible refine gate_callee (f := 17) rfl ?_); refine goesL_ (some 56) rfl rfl Tryd.func17 (by kernel_rfl) rfl #[(.slice A0 y225.length c0), (.slice A1 y229.length c1), .int .i64 a2, (.slice A3 y233.length c3)] rfl (by (try simp only [List.map_toArray, List.map_cons, List.map_nil]); first | done | rfl | (simp only [List.length_drop, List.length_take]; rfl)) ?_; (with_reducible refine (partitalaw25_laid.calls kj15 _ _ y225 _ _ y229 a2 _ _ y233 t241 false _ ?side1 ?side2 ?side3 ?side4 ?side5 ?side6 A27.out).mono ?_); (case side1 => repeat (first | exact (Kd.C_below HR228.out HB.out) | (with_reducible refine Kd.C_alloc ?_ _) | (with_reducible refine Kd.C_drewN ?_ _) | (with_reducible refine Kd.C_drew ?_))); (case side2 => exact HC228.out); (case side3 => repeat (first | exact (Kd.C_below HR232.out HB.out) | (with_reducible refine Kd.C_alloc ?_ _) | (with_reducible refine Kd.C_drewN ?_ _) | (with_reducible refine Kd.C_drew ?_))); (case side4 => exact HC232.out); (case side5 => repeat (first | exact (Kd.C_below HR236.out HB.out) | (with_reducible refine Kd.C_alloc ?_ _) | (with_reducible refine Kd.C_drewN ?_ _) | (with_reducible refine Kd.C_drew ?_))); (case side6 => exact HC236.out); rintro e w35 ⟨v243, rfl, ho0, hb⟩; refine ⟨_, rfl, ?_⟩; have n0_ := Aside0.mk (Kd.R_elder' (qR HO_10.out) (Kd.R_base ho0) hb); have n1_ := Aside0.mk (Kd.R_lower (Kd.R_new' ho0 (Kd.R_lt (qR HO_10.out))) (below_size (by repeat (first | (with_reducible first | exact HB.out | apply below_alloc | apply pw_below_drewN | apply below_drew1) | exact HB.out)))); have n2_ := Aside0.mk (below_step (by repeat (first | (with_reducible first | exact HB.out | apply below_alloc | apply pw_below_drewN | apply below_drew1) | exact HB.out)) hb); clear HO_10; clear HB; have HO_10 := n0_; have HO244 := n1_; have HB := n2_; clear n0_ n1_ n2_; (try clear hb); (try clear hb2); (try clear hk); (try clear hi); (try clear ho0)))
                     go_ret
                     exact ⟨by first | rfl | (simp [errW_none, errW_some] <;> rfl) | (simp only [← hji6, ← hji9, ← hji12]; first | rfl | (simp [errW_none, errW_some] <;> rfl)) | (simp [*, errW_none, errW_some] <;> rfl), by repeat (first | (with_reducible first | exact HB.out | apply below_alloc | apply pw_below_drewN | apply below_drew1) | exact HB.out)⟩
                 · replace c28 := Bool.eq_false_iff.mpr c28
                   subst c28
                   have H1 : none = some r := by rw [if_neg (show ¬ (false = true) by decide)] at H; exact H
                   cases H1
           · rw [if_neg c14] at H
             exact absurd H (by simp)
         · rw [if_neg c13] at H
           exact absurd H (by simp)
       · rw [if_neg c11] at H
         exact absurd H (by simp)
     · rw [if_neg c10] at H
       exact absurd H (by simp)
   · rw [if_neg c8] at H
     exact absurd H (by simp)
 · rw [if_neg c7] at H
   exact absurd H (by simp)

end Go.Proofs.YtneaoicjbiebkaaDoor.Q
