-- Written by a program of this session (myprint.py), function by function.
import Derived.Test.YtbpcilbplgbonaaDoorQ0
import Derived.Test.YtbpcilbplgbonaaDoorQ2
import Derived.Test.YtbpcilbplgbonaaDoorQ5
import Derived.Test.YtbpcilbplgbonaaDoorWAt
import Derived.Test.YtbpcilbplgbonaaDoorWN
import Derived.Test.YtbpcilbplgbonaaDoorWNEv
namespace Go.Proofs.YtbpcilbplgbonaaDoor.Q
open Go.RowKit Go.Proofs.YtbpcilbplgbonaaDoorW.PrintWords Go.Proofs.YtbpcilbplgbonaaDoorW.PrintLast Go.Proofs.YtbpcilbplgbonaaDoorW.PrintMore
attribute [local go_sem] max2_int min2_int max_two min_two max_three min_three max_four min_four   -- for this text's walks alone
set_option linter.unusedVariables false
set_option linter.unusedSimpArgs false

/-! ### partitaref26_Same: function 16 -/
mutual
def partitaref26_Same.l0 : Nat → List (S37) → List (S37) → Int → Option (Bool)
 | 0, _, _, _ => none
 | k + 1, x0, x1, x5 => if x5 < (x0.length : Int) then (if 0 ≤ x5 then (if x5 < (x1.length : Int) then (if ((rd_T37 x0 x5).f0) = ((rd_T37 x1 x5).f0) then (if ((rd_T37 x0 x5).f1) = ((rd_T37 x1 x5).f1) then (partitaref26_Same.j1 k x0 x1 x5 ((((rd_T37 x0 x5).f2).length : Int) != (((rd_T37 x1 x5).f2).length : Int))) else (partitaref26_Same.j1 k x0 x1 x5 true)) else (partitaref26_Same.j1 k x0 x1 x5 true)) else (none)) else (none)) else (some true)
def partitaref26_Same.j1 : Nat → List (S37) → List (S37) → Int → Bool → Option (Bool)
 | 0, _, _, _, _ => none
 | k + 1, x0, x1, x5, x56 => if x56 = true then (some false) else (partitaref26_Same.l1 k x0 x1 x5 0)
def partitaref26_Same.l1 : Nat → List (S37) → List (S37) → Int → Int → Option (Bool)
 | 0, _, _, _, _ => none
 | k + 1, x0, x1, x5, x6 => if 0 ≤ x5 then (if x5 < (x0.length : Int) then (if x6 < (((rd_T37 x0 x5).f2).length : Int) then (if 0 ≤ x6 then (if x5 < (x1.length : Int) then (if x6 < (((rd_T37 x1 x5).f2).length : Int) then (if (rd ((rd_T37 x0 x5).f2) x6) = (rd ((rd_T37 x1 x5).f2) x6) then (partitaref26_Same.l1 k x0 x1 x5 (wrap64 (x6 + 1))) else (some false)) else (none)) else (none)) else (none)) else (partitaref26_Same.l0 k x0 x1 (wrap64 (x5 + 1)))) else (none)) else (none)
end
def partitaref26_Same.f (k : Nat) (l0 : List (S37)) (l1 : List (S37)) : Option (Bool) := if (l0.length : Int) = (l1.length : Int) then (partitaref26_Same.l0 k l0 l1 0) else (some false)
theorem partitaref26_Same.mono_l : ∀ k, (∀ y0 y1 y2, LeO (partitaref26_Same.l0 k y0 y1 y2) (partitaref26_Same.l0 (k + 1) y0 y1 y2)) ∧ (∀ y0 y1 y2 y3, LeO (partitaref26_Same.j1 k y0 y1 y2 y3) (partitaref26_Same.j1 (k + 1) y0 y1 y2 y3)) ∧ (∀ y0 y1 y2 y3, LeO (partitaref26_Same.l1 k y0 y1 y2 y3) (partitaref26_Same.l1 (k + 1) y0 y1 y2 y3))
 | 0 => ⟨fun _ _ _ r h => by simp [partitaref26_Same.l0] at h, fun _ _ _ _ r h => by simp [partitaref26_Same.j1] at h, fun _ _ _ _ r h => by simp [partitaref26_Same.l1] at h⟩
 | k + 1 => by
  obtain ⟨ih0, ih1, ih2⟩ := partitaref26_Same.mono_l k
  refine ⟨?_, ?_, ?_⟩
  · intro y0 y1 y2
    unfold partitaref26_Same.l0
    repeat' first
    | (with_reducible exact ih0 _ _ _)
    | (with_reducible exact ih1 _ _ _ _)
    | (with_reducible exact ih2 _ _ _ _)
    | (with_reducible exact LeO.refl _)
    | (with_reducible exact LeO.none _)
    | (with_reducible refine LeO.ite ?_ ?_)
    | (with_reducible refine LeO.bind ?_ (fun _ => ?_))
    | exact ih0 _ _ _
    | exact ih1 _ _ _ _
    | exact ih2 _ _ _ _
    | exact LeO.none _
    | refine LeO.ite ?_ ?_
    | refine LeO.bind ?_ (fun _ => ?_)
  · intro y0 y1 y2 y3
    unfold partitaref26_Same.j1
    repeat' first
    | (with_reducible exact ih0 _ _ _)
    | (with_reducible exact ih1 _ _ _ _)
    | (with_reducible exact ih2 _ _ _ _)
    | (with_reducible exact LeO.refl _)
    | (with_reducible exact LeO.none _)
    | (with_reducible refine LeO.ite ?_ ?_)
    | (with_reducible refine LeO.bind ?_ (fun _ => ?_))
    | exact ih0 _ _ _
    | exact ih1 _ _ _ _
    | exact ih2 _ _ _ _
    | exact LeO.none _
    | refine LeO.ite ?_ ?_
    | refine LeO.bind ?_ (fun _ => ?_)
  · intro y0 y1 y2 y3
    unfold partitaref26_Same.l1
    repeat' first
    | (with_reducible exact ih0 _ _ _)
    | (with_reducible exact ih1 _ _ _ _)
    | (with_reducible exact ih2 _ _ _ _)
    | (with_reducible exact LeO.refl _)
    | (with_reducible exact LeO.none _)
    | (with_reducible refine LeO.ite ?_ ?_)
    | (with_reducible refine LeO.bind ?_ (fun _ => ?_))
    | exact ih0 _ _ _
    | exact ih1 _ _ _ _
    | exact ih2 _ _ _ _
    | exact LeO.none _
    | refine LeO.ite ?_ ?_
    | refine LeO.bind ?_ (fun _ => ?_)
theorem partitaref26_Same.mono : ∀ a0 a1 k, LeO (partitaref26_Same.f k a0 a1) (partitaref26_Same.f (k + 1) a0 a1) := by
 intro a0 a1 k
 obtain ⟨ih0, ih1, ih2⟩ := partitaref26_Same.mono_l k
 unfold partitaref26_Same.f
 repeat' first
  | (with_reducible exact ih0 _ _ _)
  | (with_reducible exact ih1 _ _ _ _)
  | (with_reducible exact ih2 _ _ _ _)
  | (with_reducible exact LeO.refl _)
  | (with_reducible exact LeO.none _)
  | (with_reducible refine LeO.ite ?_ ?_)
  | (with_reducible refine LeO.bind ?_ (fun _ => ?_))
  | exact ih0 _ _ _
  | exact ih1 _ _ _ _
  | exact ih2 _ _ _ _
  | exact LeO.none _
  | refine LeO.ite ?_ ?_
  | refine LeO.bind ?_ (fun _ => ?_)
set_option maxHeartbeats 8000000 in
set_option maxRecDepth 100000 in
theorem partitaref26_Same.calls (k : Nat) (A0 : Option Addr) (c0 : Nat) (l0 : List (S37)) (A1 : Option Addr) (c1 : Nat) (l1 : List (S37)) (r : Bool) (w : World) (hr0 : Kd.C k37 w A0 l0.length l0) (hc0 : l0.length ≤ c0) (hr1 : Kd.C k37 w A1 l1.length l1) (hc1 : l1.length ≤ c1) (h : partitaref26_Same.f k l0 l1 = some r) :
 Calls Tryd.prog 16 #[.slice A0 l0.length c0, .slice A1 l1.length c1] w fun e w' => e = .returned (.bool r) ∧ Drawn0 w w' := by
 have HR0 := Aside0.mk hr0
 have HC0 := Aside0.mk hc0
 clear hr0 hc0
 have HR1 := Aside0.mk hr1
 have HC1 := Aside0.mk hc1
 clear hr1 hc1
 have H : (if (l0.length : Int) = (l1.length : Int) then (partitaref26_Same.l0 k l0 l1 0) else (some false)) = some r := h
 clear h
 by_cases c3 : (l0.length : Int) = (l1.length : Int)
 · rw [if_pos c3] at H
   have c3b0 : ((l0.length : Int) == (l1.length : Int)) = true := beq_iff_eq.mpr c3
   have c3b1 : ((l0.length : Int) != (l1.length : Int)) = false := bne_eq_false_iff_eq.mpr c3
   have c3b2 : (l0.length == l1.length) = true := by first | simpa using c3 | (simp at c3 ⊢; omega)
   clear c3
   have H' := Aside0.mk H
   clear H
   go_enter Tryd.func16, Tryd.ntmps16
   go_wp2
   repeat (go_quiet (fail); try go_wp2)
   go_loopg [5] k (fun kq v5 w' => ∃ (x5_1 : Int), v5 = .int .i64 x5_1 ∧ Aside0 (partitaref26_Same.l0 kq l0 l1 x5_1 = some r) ∧ Aside0 (kq ≤ k) ∧ Drawn0 w w')
   case atStart => exact ⟨(0), (by first | rfl | (simp; done) | (simp [*]; done) | (simp [wrap64]; done)), H', ⟨Nat.le_refl _⟩, by repeat (first | exact Drawn0.refl _ | apply Drawn0.step)⟩
   case round =>
    clear H'
    try clear c1
    try clear p2
    try clear c3
    try clear c3b0
    try clear c3b1
    try clear c3b2
    obtain ⟨x5_1, rfl, HA, HK1, ⟨m1, rfl⟩⟩ := hrel
    cases gk with
    | zero => exact absurd HA.out (by simp [partitaref26_Same.l0])
    | succ k1 =>
     have H := HA.out
     clear HA
     simp only [partitaref26_Same.l0] at H
     by_cases c4 : x5_1 < (l0.length : Int)
     · rw [if_pos c4] at H
       have c4b0 : decide (x5_1 < (l0.length : Int)) = true := decide_eq_true c4
       clear c4
       have HC5 := Aside0.mk H
       clear H
       go_upto_region 6 with (fail)
       repeat (go_quiet (fail); go_upto_region 6 with (fail))
       go_cut [56] (fun v56 wc => ∃ (kq : Nat) (x56_4 : Bool), v56 = .bool x56_4 ∧ Aside0 (partitaref26_Same.j1 kq l0 l1 x5_1 x56_4 = some r) ∧ Aside0 (kq ≤ k1) ∧ Drawn0 w wc)
       case first =>
        have H := HC5.out
        clear HC5
        by_cases c6 : 0 ≤ x5_1
        · rw [if_pos c6] at H
          have c6b0 : decide (0 ≤ x5_1) = true := decide_eq_true c6
          clear c6
          (first | rw [c6b0] | (simp only [i64_w, i32_w]; rw [c6b0]) | skip)
          by_cases c7 : x5_1 < (l1.length : Int)
          · rw [if_pos c7] at H
            have c7b0 : decide (x5_1 < (l1.length : Int)) = true := decide_eq_true c7
            clear c7
            by_cases c8 : ((rd_T37 l0 x5_1).f0) = ((rd_T37 l1 x5_1).f0)
            · rw [if_pos c8] at H
              have c8b0 : (((rd_T37 l0 x5_1).f0) == ((rd_T37 l1 x5_1).f0)) = true := beq_iff_eq.mpr c8
              have c8b1 : (((rd_T37 l0 x5_1).f0) != ((rd_T37 l1 x5_1).f0)) = false := bne_eq_false_iff_eq.mpr c8
              clear c8
              by_cases c9 : ((rd_T37 l0 x5_1).f1) = ((rd_T37 l1 x5_1).f1)
              · rw [if_pos c9] at H
                have c9b0 : (((rd_T37 l0 x5_1).f1) == ((rd_T37 l1 x5_1).f1)) = true := beq_iff_eq.mpr c9
                have c9b1 : (((rd_T37 l0 x5_1).f1) != ((rd_T37 l1 x5_1).f1)) = false := bne_eq_false_iff_eq.mpr c9
                clear c9
                have H' := Aside0.mk H
                clear H
                have p125 : 0 ≤ (x5_1 : Int) := of_decide_eq_true (by first | (with_reducible assumption) | assumption)
                have q125 : x5_1 < (l0.length : Int) := of_decide_eq_true (by first | (with_reducible assumption) | assumption)
                obtain ⟨ad125, A125_2, c125_2, e125, hx125_0, hx125_1, hx125_2, hl125_2, hi125_2⟩ := at_T37 HR0.out x5_1 p125 q125
                cases e125
                have HR125_2 := Aside0.mk hi125_2
                have HC125_2 := Aside0.mk hl125_2
                clear hi125_2 hl125_2
                replace p125 := eq_true p125
                replace q125 := eq_true q125
                have p126 : 0 ≤ (x5_1 : Int) := of_decide_eq_true (by first | (with_reducible assumption) | assumption)
                have q126 : x5_1 < (l1.length : Int) := of_decide_eq_true (by first | (with_reducible assumption) | assumption)
                obtain ⟨ad126, A126_2, c126_2, e126, hx126_0, hx126_1, hx126_2, hl126_2, hi126_2⟩ := at_T37 HR1.out x5_1 p126 q126
                cases e126
                have HR126_2 := Aside0.mk hi126_2
                have HC126_2 := Aside0.mk hl126_2
                clear hi126_2 hl126_2
                replace p126 := eq_true p126
                replace q126 := eq_true q126
                have p127 : 0 ≤ (x5_1 : Int) := of_decide_eq_true (by first | (with_reducible assumption) | assumption)
                have q127 : x5_1 < (l0.length : Int) := of_decide_eq_true (by first | (with_reducible assumption) | assumption)
                obtain ⟨ad127, A127_2, c127_2, e127, hx127_0, hx127_1, hx127_2, hl127_2, hi127_2⟩ := at_T37 HR0.out x5_1 p127 q127
                obtain rfl : ad125 = ad127 := (by injection e127)
                have HR127_2 := Aside0.mk hi127_2
                have HC127_2 := Aside0.mk hl127_2
                clear hi127_2 hl127_2
                replace p127 := eq_true p127
                replace q127 := eq_true q127
                have ea_ := Option.some.inj (hx125_2.symm.trans hx127_2)
                injection ea_ with ea_ en_ ec_
                subst ea_
                subst ec_
                clear en_
                have p128 : 0 ≤ (x5_1 : Int) := of_decide_eq_true (by first | (with_reducible assumption) | assumption)
                have q128 : x5_1 < (l1.length : Int) := of_decide_eq_true (by first | (with_reducible assumption) | assumption)
                obtain ⟨ad128, A128_2, c128_2, e128, hx128_0, hx128_1, hx128_2, hl128_2, hi128_2⟩ := at_T37 HR1.out x5_1 p128 q128
                obtain rfl : ad126 = ad128 := (by injection e128)
                have HR128_2 := Aside0.mk hi128_2
                have HC128_2 := Aside0.mk hl128_2
                clear hi128_2 hl128_2
                replace p128 := eq_true p128
                replace q128 := eq_true q128
                have ea_ := Option.some.inj (hx126_2.symm.trans hx128_2)
                injection ea_ with ea_ en_ ec_
                subst ea_
                subst ec_
                clear en_
                have p129 : 0 ≤ (x5_1 : Int) := of_decide_eq_true (by first | (with_reducible assumption) | assumption)
                have q129 : x5_1 < (l0.length : Int) := of_decide_eq_true (by first | (with_reducible assumption) | assumption)
                obtain ⟨ad129, A129_2, c129_2, e129, hx129_0, hx129_1, hx129_2, hl129_2, hi129_2⟩ := at_T37 HR0.out x5_1 p129 q129
                obtain rfl : ad125 = ad129 := (by injection e129)
                have HR129_2 := Aside0.mk hi129_2
                have HC129_2 := Aside0.mk hl129_2
                clear hi129_2 hl129_2
                replace p129 := eq_true p129
                replace q129 := eq_true q129
                have ea_ := Option.some.inj (hx125_2.symm.trans hx129_2)
                injection ea_ with ea_ en_ ec_
                subst ea_
                subst ec_
                clear en_
                have p130 : 0 ≤ (x5_1 : Int) := of_decide_eq_true (by first | (with_reducible assumption) | assumption)
                have q130 : x5_1 < (l1.length : Int) := of_decide_eq_true (by first | (with_reducible assumption) | assumption)
                obtain ⟨ad130, A130_2, c130_2, e130, hx130_0, hx130_1, hx130_2, hl130_2, hi130_2⟩ := at_T37 HR1.out x5_1 p130 q130
                obtain rfl : ad126 = ad130 := (by injection e130)
                have HR130_2 := Aside0.mk hi130_2
                have HC130_2 := Aside0.mk hl130_2
                clear hi130_2 hl130_2
                replace p130 := eq_true p130
                replace q130 := eq_true q130
                have ea_ := Option.some.inj (hx126_2.symm.trans hx130_2)
                injection ea_ with ea_ en_ ec_
                subst ea_
                subst ec_
                clear en_
                go_wp2
                repeat (go_quiet (fail); try go_wp2)
                go_meet
                case rel => exact ⟨_, (((((rd_T37 l0 x5_1).f2).length : Int) != (((rd_T37 l1 x5_1).f2).length : Int))), (by first | rfl | (simp; done) | (simp [*]; done) | (simp [wrap64]; done)), H', ⟨by have := HK1.out; first | omega | exact Nat.le_refl _⟩, by repeat (first | exact Drawn0.refl _ | apply Drawn0.step)⟩
              · rw [if_neg c9] at H
                have c9b0 : (((rd_T37 l0 x5_1).f1) == ((rd_T37 l1 x5_1).f1)) = false := beq_eq_false_iff_ne.mpr c9
                have c9b1 : (((rd_T37 l0 x5_1).f1) != ((rd_T37 l1 x5_1).f1)) = true := bne_iff_ne.mpr c9
                have H' := Aside0.mk H
                clear H
                have p125 : 0 ≤ (x5_1 : Int) := of_decide_eq_true (by first | (with_reducible assumption) | assumption)
                have q125 : x5_1 < (l0.length : Int) := of_decide_eq_true (by first | (with_reducible assumption) | assumption)
                obtain ⟨ad125, A125_2, c125_2, e125, hx125_0, hx125_1, hx125_2, hl125_2, hi125_2⟩ := at_T37 HR0.out x5_1 p125 q125
                cases e125
                have HR125_2 := Aside0.mk hi125_2
                have HC125_2 := Aside0.mk hl125_2
                clear hi125_2 hl125_2
                replace p125 := eq_true p125
                replace q125 := eq_true q125
                have p126 : 0 ≤ (x5_1 : Int) := of_decide_eq_true (by first | (with_reducible assumption) | assumption)
                have q126 : x5_1 < (l1.length : Int) := of_decide_eq_true (by first | (with_reducible assumption) | assumption)
                obtain ⟨ad126, A126_2, c126_2, e126, hx126_0, hx126_1, hx126_2, hl126_2, hi126_2⟩ := at_T37 HR1.out x5_1 p126 q126
                cases e126
                have HR126_2 := Aside0.mk hi126_2
                have HC126_2 := Aside0.mk hl126_2
                clear hi126_2 hl126_2
                replace p126 := eq_true p126
                replace q126 := eq_true q126
                have p127 : 0 ≤ (x5_1 : Int) := of_decide_eq_true (by first | (with_reducible assumption) | assumption)
                have q127 : x5_1 < (l0.length : Int) := of_decide_eq_true (by first | (with_reducible assumption) | assumption)
                obtain ⟨ad127, A127_2, c127_2, e127, hx127_0, hx127_1, hx127_2, hl127_2, hi127_2⟩ := at_T37 HR0.out x5_1 p127 q127
                obtain rfl : ad125 = ad127 := (by injection e127)
                have HR127_2 := Aside0.mk hi127_2
                have HC127_2 := Aside0.mk hl127_2
                clear hi127_2 hl127_2
                replace p127 := eq_true p127
                replace q127 := eq_true q127
                have ea_ := Option.some.inj (hx125_2.symm.trans hx127_2)
                injection ea_ with ea_ en_ ec_
                subst ea_
                subst ec_
                clear en_
                have p128 : 0 ≤ (x5_1 : Int) := of_decide_eq_true (by first | (with_reducible assumption) | assumption)
                have q128 : x5_1 < (l1.length : Int) := of_decide_eq_true (by first | (with_reducible assumption) | assumption)
                obtain ⟨ad128, A128_2, c128_2, e128, hx128_0, hx128_1, hx128_2, hl128_2, hi128_2⟩ := at_T37 HR1.out x5_1 p128 q128
                obtain rfl : ad126 = ad128 := (by injection e128)
                have HR128_2 := Aside0.mk hi128_2
                have HC128_2 := Aside0.mk hl128_2
                clear hi128_2 hl128_2
                replace p128 := eq_true p128
                replace q128 := eq_true q128
                have ea_ := Option.some.inj (hx126_2.symm.trans hx128_2)
                injection ea_ with ea_ en_ ec_
                subst ea_
                subst ec_
                clear en_
                go_wp2
                repeat (go_quiet (fail); try go_wp2)
                go_meet
                case rel => exact ⟨_, (true), (by first | rfl | (simp; done) | (simp [*]; done) | (simp [wrap64]; done)), H', ⟨by have := HK1.out; first | omega | exact Nat.le_refl _⟩, by repeat (first | exact Drawn0.refl _ | apply Drawn0.step)⟩
            · rw [if_neg c8] at H
              have c8b0 : (((rd_T37 l0 x5_1).f0) == ((rd_T37 l1 x5_1).f0)) = false := beq_eq_false_iff_ne.mpr c8
              have c8b1 : (((rd_T37 l0 x5_1).f0) != ((rd_T37 l1 x5_1).f0)) = true := bne_iff_ne.mpr c8
              have H' := Aside0.mk H
              clear H
              have p125 : 0 ≤ (x5_1 : Int) := of_decide_eq_true (by first | (with_reducible assumption) | assumption)
              have q125 : x5_1 < (l0.length : Int) := of_decide_eq_true (by first | (with_reducible assumption) | assumption)
              obtain ⟨ad125, A125_2, c125_2, e125, hx125_0, hx125_1, hx125_2, hl125_2, hi125_2⟩ := at_T37 HR0.out x5_1 p125 q125
              cases e125
              have HR125_2 := Aside0.mk hi125_2
              have HC125_2 := Aside0.mk hl125_2
              clear hi125_2 hl125_2
              replace p125 := eq_true p125
              replace q125 := eq_true q125
              have p126 : 0 ≤ (x5_1 : Int) := of_decide_eq_true (by first | (with_reducible assumption) | assumption)
              have q126 : x5_1 < (l1.length : Int) := of_decide_eq_true (by first | (with_reducible assumption) | assumption)
              obtain ⟨ad126, A126_2, c126_2, e126, hx126_0, hx126_1, hx126_2, hl126_2, hi126_2⟩ := at_T37 HR1.out x5_1 p126 q126
              cases e126
              have HR126_2 := Aside0.mk hi126_2
              have HC126_2 := Aside0.mk hl126_2
              clear hi126_2 hl126_2
              replace p126 := eq_true p126
              replace q126 := eq_true q126
              go_wp2
              repeat (go_quiet (fail); try go_wp2)
              go_meet
              case rel => exact ⟨_, (true), (by first | rfl | (simp; done) | (simp [*]; done) | (simp [wrap64]; done)), H', ⟨by have := HK1.out; first | omega | exact Nat.le_refl _⟩, by repeat (first | exact Drawn0.refl _ | apply Drawn0.step)⟩
          · rw [if_neg c7] at H
            exact absurd H (by simp)
        · rw [if_neg c6] at H
          exact absurd H (by simp)
       case rest =>
        clear HC5
        try clear c1
        try clear p1
        try clear q1
        try clear hx1
        try clear p2
        try clear c3
        try clear c3b0
        try clear c3b1
        try clear c3b2
        try clear c4
        try clear c4b0
        try clear c6
        try clear c6b0
        try clear c7
        try clear c7b0
        try clear c8
        try clear c8b0
        try clear c8b1
        try clear c9
        try clear c9b0
        try clear c9b1
        try clear hx125_0
        try clear hx125_1
        try clear hx125_2
        try clear hx126_0
        try clear hx126_1
        try clear hx126_2
        try clear hx127_0
        try clear hx127_1
        try clear hx127_2
        try clear hx128_0
        try clear hx128_1
        try clear hx128_2
        try clear hx129_0
        try clear hx129_1
        try clear hx129_2
        try clear hx130_0
        try clear hx130_1
        try clear hx130_2
        try clear p125
        try clear p126
        try clear p127
        try clear p128
        try clear p129
        try clear p130
        try clear p2
        try clear q125
        try clear q126
        try clear q127
        try clear q128
        try clear q129
        try clear q130
        obtain ⟨kq, x56_4, rfl, HA, HJ4, ⟨mc4, rfl⟩⟩ := hcut
        cases kq with
        | zero => exact absurd HA.out (by simp [partitaref26_Same.j1])
        | succ kj4 =>
         have H := HA.out
         clear HA
         simp only [partitaref26_Same.j1] at H
         by_cases c10 : x56_4 = true
         · subst c10
           have H1 : (some false) = some r := by rw [if_pos rfl] at H; exact H
           clear H
           have H := H1
           clear H1
           obtain rfl := Option.some.inj H
           go_wp2
           repeat (go_quiet (fail); try go_wp2)
           go_ret
           exact ⟨by first | rfl | (simp; done) | (simp [*]; done), by repeat (first | exact Drawn0.refl _ | apply Drawn0.step)⟩
         · replace c10 := Bool.eq_false_iff.mpr c10
           subst c10
           have H1 : (partitaref26_Same.l1 kj4 l0 l1 x5_1 0) = some r := by rw [if_neg (show ¬ (false = true) by decide)] at H; exact H
           clear H
           have H := H1
           clear H1
           have H' := Aside0.mk H
           clear H
           go_wp2
           repeat (go_quiet (fail); try go_wp2)
           go_loopg [6] kj4 (fun kq v6 w' => ∃ (x6_3 : Int), v6 = .int .i64 x6_3 ∧ Aside0 (partitaref26_Same.l1 kq l0 l1 x5_1 x6_3 = some r) ∧ Aside0 (kq ≤ kj4) ∧ Drawn0 w w')
           case atStart => exact ⟨(0), (by first | rfl | (simp; done) | (simp [*]; done) | (simp [wrap64]; done)), H', ⟨Nat.le_refl _⟩, by repeat (first | exact Drawn0.refl _ | apply Drawn0.step)⟩
           case round =>
            clear H'
            try clear c1
            try clear p1
            try clear q1
            try clear hx1
            try clear p2
            try clear c3
            try clear c3b0
            try clear c3b1
            try clear c3b2
            try clear c4
            try clear c4b0
            try clear c6
            try clear c6b0
            try clear c7
            try clear c7b0
            try clear c8
            try clear c8b0
            try clear c8b1
            try clear c9
            try clear c9b0
            try clear c9b1
            try clear c10
            try clear hx125_0
            try clear hx125_1
            try clear hx125_2
            try clear hx126_0
            try clear hx126_1
            try clear hx126_2
            try clear hx127_0
            try clear hx127_1
            try clear hx127_2
            try clear hx128_0
            try clear hx128_1
            try clear hx128_2
            try clear hx129_0
            try clear hx129_1
            try clear hx129_2
            try clear hx130_0
            try clear hx130_1
            try clear hx130_2
            try clear p1
            try clear p125
            try clear p126
            try clear p127
            try clear p128
            try clear p129
            try clear p130
            try clear p2
            try clear q1
            try clear q125
            try clear q126
            try clear q127
            try clear q128
            try clear q129
            try clear q130
            obtain ⟨x6_3, rfl, HA, HK3, ⟨m3, rfl⟩⟩ := hrel
            cases gk with
            | zero => exact absurd HA.out (by simp [partitaref26_Same.l1])
            | succ k3 =>
             have H := HA.out
             clear HA
             simp only [partitaref26_Same.l1] at H
             by_cases c11 : 0 ≤ x5_1
             · rw [if_pos c11] at H
               have c11b0 : decide (0 ≤ x5_1) = true := decide_eq_true c11
               clear c11
               by_cases c12 : x5_1 < (l0.length : Int)
               · rw [if_pos c12] at H
                 have c12b0 : decide (x5_1 < (l0.length : Int)) = true := decide_eq_true c12
                 clear c12
                 by_cases c13 : x6_3 < (((rd_T37 l0 x5_1).f2).length : Int)
                 · rw [if_pos c13] at H
                   have c13b0 : decide (x6_3 < (((rd_T37 l0 x5_1).f2).length : Int)) = true := decide_eq_true c13
                   clear c13
                   by_cases c14 : 0 ≤ x6_3
                   · rw [if_pos c14] at H
                     have c14b0 : decide (0 ≤ x6_3) = true := decide_eq_true c14
                     clear c14
                     by_cases c15 : x5_1 < (l1.length : Int)
                     · rw [if_pos c15] at H
                       have c15b0 : decide (x5_1 < (l1.length : Int)) = true := decide_eq_true c15
                       clear c15
                       by_cases c16 : x6_3 < (((rd_T37 l1 x5_1).f2).length : Int)
                       · rw [if_pos c16] at H
                         have c16b0 : decide (x6_3 < (((rd_T37 l1 x5_1).f2).length : Int)) = true := decide_eq_true c16
                         clear c16
                         by_cases c17 : (rd ((rd_T37 l0 x5_1).f2) x6_3) = (rd ((rd_T37 l1 x5_1).f2) x6_3)
                         · rw [if_pos c17] at H
                           have c17b0 : ((rd ((rd_T37 l0 x5_1).f2) x6_3) == (rd ((rd_T37 l1 x5_1).f2) x6_3)) = true := beq_iff_eq.mpr c17
                           have c17b1 : ((rd ((rd_T37 l0 x5_1).f2) x6_3) != (rd ((rd_T37 l1 x5_1).f2) x6_3)) = false := bne_eq_false_iff_eq.mpr c17
                           clear c17
                           have H' := Aside0.mk H
                           clear H
                           have p131 : 0 ≤ (x5_1 : Int) := of_decide_eq_true (by first | (with_reducible assumption) | assumption)
                           have q131 : x5_1 < (l0.length : Int) := of_decide_eq_true (by first | (with_reducible assumption) | assumption)
                           obtain ⟨ad131, A131_2, c131_2, e131, hx131_0, hx131_1, hx131_2, hl131_2, hi131_2⟩ := at_T37 HR0.out x5_1 p131 q131
                           cases e131
                           have HR131_2 := Aside0.mk hi131_2
                           have HC131_2 := Aside0.mk hl131_2
                           clear hi131_2 hl131_2
                           replace p131 := eq_true p131
                           replace q131 := eq_true q131
                           have p132 : 0 ≤ (x5_1 : Int) := of_decide_eq_true (by first | (with_reducible assumption) | assumption)
                           have q132 : x5_1 < (l0.length : Int) := of_decide_eq_true (by first | (with_reducible assumption) | assumption)
                           obtain ⟨ad132, A132_2, c132_2, e132, hx132_0, hx132_1, hx132_2, hl132_2, hi132_2⟩ := at_T37 HR0.out x5_1 p132 q132
                           obtain rfl : ad131 = ad132 := (by injection e132)
                           have HR132_2 := Aside0.mk hi132_2
                           have HC132_2 := Aside0.mk hl132_2
                           clear hi132_2 hl132_2
                           replace p132 := eq_true p132
                           replace q132 := eq_true q132
                           have ea_ := Option.some.inj (hx131_2.symm.trans hx132_2)
                           injection ea_ with ea_ en_ ec_
                           subst ea_
                           subst ec_
                           clear en_
                           have p133 : 0 ≤ (x6_3 : Int) := of_decide_eq_true (by first | (with_reducible assumption) | assumption)
                           have q133 : x6_3 < (((rd_T37 l0 x5_1).f2).length : Int) := of_decide_eq_true (by first | (with_reducible assumption) | assumption)
                           obtain ⟨ad133, e133, hx133_0⟩ := Kd.at_int HR132_2.out x6_3 p133 q133
                           cases e133
                           replace p133 := eq_true p133
                           replace q133 := eq_true q133
                           have p134 : 0 ≤ (x5_1 : Int) := of_decide_eq_true (by first | (with_reducible assumption) | assumption)
                           have q134 : x5_1 < (l1.length : Int) := of_decide_eq_true (by first | (with_reducible assumption) | assumption)
                           obtain ⟨ad134, A134_2, c134_2, e134, hx134_0, hx134_1, hx134_2, hl134_2, hi134_2⟩ := at_T37 HR1.out x5_1 p134 q134
                           cases e134
                           have HR134_2 := Aside0.mk hi134_2
                           have HC134_2 := Aside0.mk hl134_2
                           clear hi134_2 hl134_2
                           replace p134 := eq_true p134
                           replace q134 := eq_true q134
                           have p135 : 0 ≤ (x6_3 : Int) := of_decide_eq_true (by first | (with_reducible assumption) | assumption)
                           have q135 : x6_3 < (((rd_T37 l1 x5_1).f2).length : Int) := of_decide_eq_true (by first | (with_reducible assumption) | assumption)
                           obtain ⟨ad135, e135, hx135_0⟩ := Kd.at_int HR134_2.out x6_3 p135 q135
                           cases e135
                           replace p135 := eq_true p135
                           replace q135 := eq_true q135
                           go_wp2
                           repeat (go_quiet (fail); try go_wp2)
                           go_roundg k3
                           case measure => have := HK1.out; have := HJ4.out; have := HK3.out; omega
                           case rel => exact ⟨(wrap64 (x6_3 + 1)), (by first | rfl | (simp; done) | (simp [*]; done) | (simp [wrap64]; done)), H', ⟨by have := HK1.out; have := HJ4.out; have := HK3.out; omega⟩, by repeat (first | exact Drawn0.refl _ | apply Drawn0.step)⟩
                         · rw [if_neg c17] at H
                           have c17b0 : ((rd ((rd_T37 l0 x5_1).f2) x6_3) == (rd ((rd_T37 l1 x5_1).f2) x6_3)) = false := beq_eq_false_iff_ne.mpr c17
                           have c17b1 : ((rd ((rd_T37 l0 x5_1).f2) x6_3) != (rd ((rd_T37 l1 x5_1).f2) x6_3)) = true := bne_iff_ne.mpr c17
                           obtain rfl := Option.some.inj H
                           have p131 : 0 ≤ (x5_1 : Int) := of_decide_eq_true (by first | (with_reducible assumption) | assumption)
                           have q131 : x5_1 < (l0.length : Int) := of_decide_eq_true (by first | (with_reducible assumption) | assumption)
                           obtain ⟨ad131, A131_2, c131_2, e131, hx131_0, hx131_1, hx131_2, hl131_2, hi131_2⟩ := at_T37 HR0.out x5_1 p131 q131
                           cases e131
                           have HR131_2 := Aside0.mk hi131_2
                           have HC131_2 := Aside0.mk hl131_2
                           clear hi131_2 hl131_2
                           replace p131 := eq_true p131
                           replace q131 := eq_true q131
                           have p132 : 0 ≤ (x5_1 : Int) := of_decide_eq_true (by first | (with_reducible assumption) | assumption)
                           have q132 : x5_1 < (l0.length : Int) := of_decide_eq_true (by first | (with_reducible assumption) | assumption)
                           obtain ⟨ad132, A132_2, c132_2, e132, hx132_0, hx132_1, hx132_2, hl132_2, hi132_2⟩ := at_T37 HR0.out x5_1 p132 q132
                           obtain rfl : ad131 = ad132 := (by injection e132)
                           have HR132_2 := Aside0.mk hi132_2
                           have HC132_2 := Aside0.mk hl132_2
                           clear hi132_2 hl132_2
                           replace p132 := eq_true p132
                           replace q132 := eq_true q132
                           have ea_ := Option.some.inj (hx131_2.symm.trans hx132_2)
                           injection ea_ with ea_ en_ ec_
                           subst ea_
                           subst ec_
                           clear en_
                           have p133 : 0 ≤ (x6_3 : Int) := of_decide_eq_true (by first | (with_reducible assumption) | assumption)
                           have q133 : x6_3 < (((rd_T37 l0 x5_1).f2).length : Int) := of_decide_eq_true (by first | (with_reducible assumption) | assumption)
                           obtain ⟨ad133, e133, hx133_0⟩ := Kd.at_int HR132_2.out x6_3 p133 q133
                           cases e133
                           replace p133 := eq_true p133
                           replace q133 := eq_true q133
                           have p134 : 0 ≤ (x5_1 : Int) := of_decide_eq_true (by first | (with_reducible assumption) | assumption)
                           have q134 : x5_1 < (l1.length : Int) := of_decide_eq_true (by first | (with_reducible assumption) | assumption)
                           obtain ⟨ad134, A134_2, c134_2, e134, hx134_0, hx134_1, hx134_2, hl134_2, hi134_2⟩ := at_T37 HR1.out x5_1 p134 q134
                           cases e134
                           have HR134_2 := Aside0.mk hi134_2
                           have HC134_2 := Aside0.mk hl134_2
                           clear hi134_2 hl134_2
                           replace p134 := eq_true p134
                           replace q134 := eq_true q134
                           have p135 : 0 ≤ (x6_3 : Int) := of_decide_eq_true (by first | (with_reducible assumption) | assumption)
                           have q135 : x6_3 < (((rd_T37 l1 x5_1).f2).length : Int) := of_decide_eq_true (by first | (with_reducible assumption) | assumption)
                           obtain ⟨ad135, e135, hx135_0⟩ := Kd.at_int HR134_2.out x6_3 p135 q135
                           cases e135
                           replace p135 := eq_true p135
                           replace q135 := eq_true q135
                           go_wp2
                           repeat (go_quiet (fail); try go_wp2)
                           go_ret
                           exact ⟨by first | rfl | (simp; done) | (simp [*]; done), by repeat (first | exact Drawn0.refl _ | apply Drawn0.step)⟩
                       · rw [if_neg c16] at H
                         exact absurd H (by simp)
                     · rw [if_neg c15] at H
                       exact absurd H (by simp)
                   · rw [if_neg c14] at H
                     exact absurd H (by simp)
                 · rw [if_neg c13] at H
                   have c13b0 : decide (x6_3 < (((rd_T37 l0 x5_1).f2).length : Int)) = false := decide_eq_false c13
                   clear c13
                   have H' := Aside0.mk H
                   clear H
                   have p131 : 0 ≤ (x5_1 : Int) := of_decide_eq_true (by first | (with_reducible assumption) | assumption)
                   have q131 : x5_1 < (l0.length : Int) := of_decide_eq_true (by first | (with_reducible assumption) | assumption)
                   obtain ⟨ad131, A131_2, c131_2, e131, hx131_0, hx131_1, hx131_2, hl131_2, hi131_2⟩ := at_T37 HR0.out x5_1 p131 q131
                   cases e131
                   have HR131_2 := Aside0.mk hi131_2
                   have HC131_2 := Aside0.mk hl131_2
                   clear hi131_2 hl131_2
                   replace p131 := eq_true p131
                   replace q131 := eq_true q131
                   go_wp2
                   repeat (go_quiet (fail); try go_wp2)
                   go_roundg k3
                   case measure => have := HK1.out; have := HJ4.out; have := HK3.out; omega
                   case rel => exact ⟨(wrap64 (x5_1 + 1)), (by first | rfl | (simp; done) | (simp [*]; done) | (simp [wrap64]; done)), H', ⟨by have := HK1.out; have := HJ4.out; have := HK3.out; omega⟩, by repeat (first | exact Drawn0.refl _ | apply Drawn0.step)⟩
               · rw [if_neg c12] at H
                 exact absurd H (by simp)
             · rw [if_neg c11] at H
               exact absurd H (by simp)
     · rw [if_neg c4] at H
       have c4b0 : decide (x5_1 < (l0.length : Int)) = false := decide_eq_false c4
       clear c4
       obtain rfl := Option.some.inj H
       go_wp2
       repeat (go_quiet (fail); try go_wp2)
       go_ret
       exact ⟨by first | rfl | (simp; done) | (simp [*]; done), by repeat (first | exact Drawn0.refl _ | apply Drawn0.step)⟩
 · rw [if_neg c3] at H
   have c3b0 : ((l0.length : Int) == (l1.length : Int)) = false := beq_eq_false_iff_ne.mpr c3
   have c3b1 : ((l0.length : Int) != (l1.length : Int)) = true := bne_iff_ne.mpr c3
   have c3b2 : (l0.length == l1.length) = false := by first | simpa using c3 | (simp at c3 ⊢; omega)
   obtain rfl := Option.some.inj H
   go_enter Tryd.func16, Tryd.ntmps16
   go_wp2
   repeat (go_quiet (fail); try go_wp2)
   go_ret
   exact ⟨by first | rfl | (simp; done) | (simp [*]; done), by repeat (first | exact Drawn0.refl _ | apply Drawn0.step)⟩

/-! ### partitalaw26_shown: function 9 -/
def partitalaw26_shown.f (k : Nat)  : Option (Bool) := (pages_Break.f (([30, 30, 30] : List Int)) 80 10).bind fun bt139 => ((pages_Break.f (([30, 81] : List Int)) 80 10).bind fun bt146 => ((pages_Break.f (([0] : List Int)) 80 10).bind fun bt153 => ((pages_Cost.f k bt139.1 (([30, 30, 30] : List Int)) 80 10).bind fun bt160 => ((pages_Cost.f k ([] : List (S37)) (([30] : List Int)) 80 10).bind fun bt165 => (if bt139.2 = 0 then ((partitaref26_Same.f k bt139.1 (([(⟨0, 2, (([0, 50] : List Int))⟩ : S37), (⟨2, 3, (([0] : List Int))⟩ : S37)] : List (S37)))).bind fun t176 => (if t176 = true then (if bt146.2 = 260 then (if bt153.2 = 2 then (if bt160.1 = 100 then (if bt160.2 = true then (some (!bt165.2)) else none) else none) else none) else none) else none)) else none)))))
theorem partitalaw26_shown.mono : ∀ k, LeO (partitalaw26_shown.f k ) (partitalaw26_shown.f (k + 1) ) := by
 intro  k
 unfold partitalaw26_shown.f
 repeat' first
  | (with_reducible exact pages_Cost.mono _ _ _ _ _)
  | (with_reducible exact partitaref26_Same.mono _ _ _)
  | (with_reducible exact LeO.refl _)
  | (with_reducible exact LeO.none _)
  | (with_reducible refine LeO.ite ?_ ?_)
  | (with_reducible refine LeO.bind ?_ (fun _ => ?_))
  | exact pages_Cost.mono _ _ _ _ _
  | exact partitaref26_Same.mono _ _ _
  | exact LeO.none _
  | refine LeO.ite ?_ ?_
  | refine LeO.bind ?_ (fun _ => ?_)
set_option maxHeartbeats 8000000 in
set_option maxRecDepth 100000 in
theorem partitalaw26_shown.calls (k : Nat)  (r : Bool) (w : World) (h : partitalaw26_shown.f k  = some r) (SENTS : Aside0 (SentsE w) := by exact sents_step (by assumption) (by repeat (first | (with_reducible first | exact (by assumption : Aside0 (Below _ _ _)).out | apply below_alloc | apply pw_below_drewN | apply below_drew1)))) :
 Calls Tryd.prog 9 #[] w fun e w' => e = .returned (.bool r) ∧ Below w.heap.size w w' := by
 have hu37 := Tryd.underlying37
 have HB := Aside0.mk (Below.refl w.heap.size w)
 have H : ((pages_Break.f (([30, 30, 30] : List Int)) 80 10).bind fun bt139 => ((pages_Break.f (([30, 81] : List Int)) 80 10).bind fun bt146 => ((pages_Break.f (([0] : List Int)) 80 10).bind fun bt153 => ((pages_Cost.f k bt139.1 (([30, 30, 30] : List Int)) 80 10).bind fun bt160 => ((pages_Cost.f k ([] : List (S37)) (([30] : List Int)) 80 10).bind fun bt165 => (if bt139.2 = 0 then ((partitaref26_Same.f k bt139.1 (([(⟨0, 2, (([0, 50] : List Int))⟩ : S37), (⟨2, 3, (([0] : List Int))⟩ : S37)] : List (S37)))).bind fun t176 => (if t176 = true then (if bt146.2 = 260 then (if bt153.2 = 2 then (if bt160.1 = 100 then (if bt160.2 = true then (some (!bt165.2)) else none) else none) else none) else none) else none)) else none)))))) = some r := h
 clear h
 obtain ⟨y136, hy136⟩ : ∃ y_ : List Int, y_ = (([30, 30, 30] : List Int)) := ⟨_, rfl⟩
 replace H : ((pages_Break.f y136 80 10).bind fun bt139 => ((pages_Break.f (([30, 81] : List Int)) 80 10).bind fun bt146 => ((pages_Break.f (([0] : List Int)) 80 10).bind fun bt153 => ((pages_Cost.f k bt139.1 (([30, 30, 30] : List Int)) 80 10).bind fun bt160 => ((pages_Cost.f k ([] : List (S37)) (([30] : List Int)) 80 10).bind fun bt165 => (if bt139.2 = 0 then ((partitaref26_Same.f k bt139.1 (([(⟨0, 2, (([0, 50] : List Int))⟩ : S37), (⟨2, 3, (([0] : List Int))⟩ : S37)] : List (S37)))).bind fun t176 => (if t176 = true then (if bt146.2 = 260 then (if bt153.2 = 2 then (if bt160.1 = 100 then (if bt160.2 = true then (some (!bt165.2)) else none) else none) else none) else none) else none)) else none)))))) = some r := by first | (rw [hy136]; with_reducible exact H) | (have H2_ := (Option.bind_some _ _).symm.trans H; rw [hy136]; with_reducible exact H2_) | (have H2_ := (Option.bind_some _ _).symm.trans H; with_reducible exact H2_) | with_reducible exact H | (rw [hy136]; exact H) | exact H
 have Ny136 := Aside0.mk hy136
 clear hy136
 replace H := Option.bind_eq_some_iff.mp H
 obtain ⟨⟨t139, t140⟩, A10, H⟩ := H
 replace H : ((pages_Break.f (([30, 81] : List Int)) 80 10).bind fun bt146 => ((pages_Break.f (([0] : List Int)) 80 10).bind fun bt153 => ((pages_Cost.f k t139 (([30, 30, 30] : List Int)) 80 10).bind fun bt160 => ((pages_Cost.f k ([] : List (S37)) (([30] : List Int)) 80 10).bind fun bt165 => (if t140 = 0 then ((partitaref26_Same.f k t139 (([(⟨0, 2, (([0, 50] : List Int))⟩ : S37), (⟨2, 3, (([0] : List Int))⟩ : S37)] : List (S37)))).bind fun t176 => (if t176 = true then (if bt146.2 = 260 then (if bt153.2 = 2 then (if bt160.1 = 100 then (if bt160.2 = true then (some (!bt165.2)) else none) else none) else none) else none) else none)) else none))))) = some r := H
 have A1 := Aside0.mk A10
 clear A10
 obtain ⟨y143, hy143⟩ : ∃ y_ : List Int, y_ = (([30, 81] : List Int)) := ⟨_, rfl⟩
 replace H : ((pages_Break.f y143 80 10).bind fun bt146 => ((pages_Break.f (([0] : List Int)) 80 10).bind fun bt153 => ((pages_Cost.f k t139 (([30, 30, 30] : List Int)) 80 10).bind fun bt160 => ((pages_Cost.f k ([] : List (S37)) (([30] : List Int)) 80 10).bind fun bt165 => (if t140 = 0 then ((partitaref26_Same.f k t139 (([(⟨0, 2, (([0, 50] : List Int))⟩ : S37), (⟨2, 3, (([0] : List Int))⟩ : S37)] : List (S37)))).bind fun t176 => (if t176 = true then (if bt146.2 = 260 then (if bt153.2 = 2 then (if bt160.1 = 100 then (if bt160.2 = true then (some (!bt165.2)) else none) else none) else none) else none) else none)) else none))))) = some r := by first | (rw [hy143]; with_reducible exact H) | (have H2_ := (Option.bind_some _ _).symm.trans H; rw [hy143]; with_reducible exact H2_) | (have H2_ := (Option.bind_some _ _).symm.trans H; with_reducible exact H2_) | with_reducible exact H | (rw [hy143]; exact H) | exact H
 have Ny143 := Aside0.mk hy143
 clear hy143
 replace H := Option.bind_eq_some_iff.mp H
 obtain ⟨⟨t146, t147⟩, A20, H⟩ := H
 replace H : ((pages_Break.f (([0] : List Int)) 80 10).bind fun bt153 => ((pages_Cost.f k t139 (([30, 30, 30] : List Int)) 80 10).bind fun bt160 => ((pages_Cost.f k ([] : List (S37)) (([30] : List Int)) 80 10).bind fun bt165 => (if t140 = 0 then ((partitaref26_Same.f k t139 (([(⟨0, 2, (([0, 50] : List Int))⟩ : S37), (⟨2, 3, (([0] : List Int))⟩ : S37)] : List (S37)))).bind fun t176 => (if t176 = true then (if t147 = 260 then (if bt153.2 = 2 then (if bt160.1 = 100 then (if bt160.2 = true then (some (!bt165.2)) else none) else none) else none) else none) else none)) else none)))) = some r := H
 have A2 := Aside0.mk A20
 clear A20
 obtain ⟨y150, hy150⟩ : ∃ y_ : List Int, y_ = (([0] : List Int)) := ⟨_, rfl⟩
 replace H : ((pages_Break.f y150 80 10).bind fun bt153 => ((pages_Cost.f k t139 (([30, 30, 30] : List Int)) 80 10).bind fun bt160 => ((pages_Cost.f k ([] : List (S37)) (([30] : List Int)) 80 10).bind fun bt165 => (if t140 = 0 then ((partitaref26_Same.f k t139 (([(⟨0, 2, (([0, 50] : List Int))⟩ : S37), (⟨2, 3, (([0] : List Int))⟩ : S37)] : List (S37)))).bind fun t176 => (if t176 = true then (if t147 = 260 then (if bt153.2 = 2 then (if bt160.1 = 100 then (if bt160.2 = true then (some (!bt165.2)) else none) else none) else none) else none) else none)) else none)))) = some r := by first | (rw [hy150]; with_reducible exact H) | (have H2_ := (Option.bind_some _ _).symm.trans H; rw [hy150]; with_reducible exact H2_) | (have H2_ := (Option.bind_some _ _).symm.trans H; with_reducible exact H2_) | with_reducible exact H | (rw [hy150]; exact H) | exact H
 have Ny150 := Aside0.mk hy150
 clear hy150
 replace H := Option.bind_eq_some_iff.mp H
 obtain ⟨⟨t153, t154⟩, A30, H⟩ := H
 replace H : ((pages_Cost.f k t139 (([30, 30, 30] : List Int)) 80 10).bind fun bt160 => ((pages_Cost.f k ([] : List (S37)) (([30] : List Int)) 80 10).bind fun bt165 => (if t140 = 0 then ((partitaref26_Same.f k t139 (([(⟨0, 2, (([0, 50] : List Int))⟩ : S37), (⟨2, 3, (([0] : List Int))⟩ : S37)] : List (S37)))).bind fun t176 => (if t176 = true then (if t147 = 260 then (if t154 = 2 then (if bt160.1 = 100 then (if bt160.2 = true then (some (!bt165.2)) else none) else none) else none) else none) else none)) else none))) = some r := H
 have A3 := Aside0.mk A30
 clear A30
 obtain ⟨y157, hy157⟩ : ∃ y_ : List Int, y_ = (([30, 30, 30] : List Int)) := ⟨_, rfl⟩
 replace H : ((pages_Cost.f k t139 y157 80 10).bind fun bt160 => ((pages_Cost.f k ([] : List (S37)) (([30] : List Int)) 80 10).bind fun bt165 => (if t140 = 0 then ((partitaref26_Same.f k t139 (([(⟨0, 2, (([0, 50] : List Int))⟩ : S37), (⟨2, 3, (([0] : List Int))⟩ : S37)] : List (S37)))).bind fun t176 => (if t176 = true then (if t147 = 260 then (if t154 = 2 then (if bt160.1 = 100 then (if bt160.2 = true then (some (!bt165.2)) else none) else none) else none) else none) else none)) else none))) = some r := by first | (rw [hy157]; with_reducible exact H) | (have H2_ := (Option.bind_some _ _).symm.trans H; rw [hy157]; with_reducible exact H2_) | (have H2_ := (Option.bind_some _ _).symm.trans H; with_reducible exact H2_) | with_reducible exact H | (rw [hy157]; exact H) | exact H
 have Ny157 := Aside0.mk hy157
 clear hy157
 replace H := Option.bind_eq_some_iff.mp H
 obtain ⟨⟨t160, t161⟩, A40, H⟩ := H
 replace H : ((pages_Cost.f k ([] : List (S37)) (([30] : List Int)) 80 10).bind fun bt165 => (if t140 = 0 then ((partitaref26_Same.f k t139 (([(⟨0, 2, (([0, 50] : List Int))⟩ : S37), (⟨2, 3, (([0] : List Int))⟩ : S37)] : List (S37)))).bind fun t176 => (if t176 = true then (if t147 = 260 then (if t154 = 2 then (if t160 = 100 then (if t161 = true then (some (!bt165.2)) else none) else none) else none) else none) else none)) else none)) = some r := H
 have A4 := Aside0.mk A40
 clear A40
 obtain ⟨y162, hy162⟩ : ∃ y_ : List Int, y_ = (([30] : List Int)) := ⟨_, rfl⟩
 replace H : ((pages_Cost.f k ([] : List (S37)) y162 80 10).bind fun bt165 => (if t140 = 0 then ((partitaref26_Same.f k t139 (([(⟨0, 2, (([0, 50] : List Int))⟩ : S37), (⟨2, 3, (([0] : List Int))⟩ : S37)] : List (S37)))).bind fun t176 => (if t176 = true then (if t147 = 260 then (if t154 = 2 then (if t160 = 100 then (if t161 = true then (some (!bt165.2)) else none) else none) else none) else none) else none)) else none)) = some r := by first | (rw [hy162]; with_reducible exact H) | (have H2_ := (Option.bind_some _ _).symm.trans H; rw [hy162]; with_reducible exact H2_) | (have H2_ := (Option.bind_some _ _).symm.trans H; with_reducible exact H2_) | with_reducible exact H | (rw [hy162]; exact H) | exact H
 have Ny162 := Aside0.mk hy162
 clear hy162
 replace H := Option.bind_eq_some_iff.mp H
 obtain ⟨⟨t165, t166⟩, A50, H⟩ := H
 replace H : (if t140 = 0 then ((partitaref26_Same.f k t139 (([(⟨0, 2, (([0, 50] : List Int))⟩ : S37), (⟨2, 3, (([0] : List Int))⟩ : S37)] : List (S37)))).bind fun t176 => (if t176 = true then (if t147 = 260 then (if t154 = 2 then (if t160 = 100 then (if t161 = true then (some (!t166)) else none) else none) else none) else none) else none)) else none) = some r := H
 have A5 := Aside0.mk A50
 clear A50
 by_cases c6 : t140 = 0
 · rw [if_pos c6] at H
   have c6b0 : (t140 == 0) = true := beq_iff_eq.mpr c6
   have c6b1 : (t140 != 0) = false := bne_eq_false_iff_eq.mpr c6
   clear c6
   obtain ⟨y167, hy167⟩ : ∃ y_ : List Int, y_ = (([0, 50] : List Int)) := ⟨_, rfl⟩
   replace H : ((partitaref26_Same.f k t139 (([(⟨0, 2, y167⟩ : S37), (⟨2, 3, (([0] : List Int))⟩ : S37)] : List (S37)))).bind fun t176 => (if t176 = true then (if t147 = 260 then (if t154 = 2 then (if t160 = 100 then (if t161 = true then (some (!t166)) else none) else none) else none) else none) else none)) = some r := by first | (rw [hy167]; with_reducible exact H) | (have H2_ := (Option.bind_some _ _).symm.trans H; rw [hy167]; with_reducible exact H2_) | (have H2_ := (Option.bind_some _ _).symm.trans H; with_reducible exact H2_) | with_reducible exact H | (rw [hy167]; exact H) | exact H
   have Ny167 := Aside0.mk hy167
   clear hy167
   obtain ⟨y170, hy170⟩ : ∃ y_ : List Int, y_ = (([0] : List Int)) := ⟨_, rfl⟩
   replace H : ((partitaref26_Same.f k t139 (([(⟨0, 2, y167⟩ : S37), (⟨2, 3, y170⟩ : S37)] : List (S37)))).bind fun t176 => (if t176 = true then (if t147 = 260 then (if t154 = 2 then (if t160 = 100 then (if t161 = true then (some (!t166)) else none) else none) else none) else none) else none)) = some r := by first | (rw [hy170]; with_reducible exact H) | (have H2_ := (Option.bind_some _ _).symm.trans H; rw [hy170]; with_reducible exact H2_) | (have H2_ := (Option.bind_some _ _).symm.trans H; with_reducible exact H2_) | with_reducible exact H | (rw [hy170]; exact H) | exact H
   have Ny170 := Aside0.mk hy170
   clear hy170
   obtain ⟨y173, hy173⟩ : ∃ y_ : List (S37), y_ = (([(⟨0, 2, y167⟩ : S37), (⟨2, 3, y170⟩ : S37)] : List (S37))) := ⟨_, rfl⟩
   replace H : ((partitaref26_Same.f k t139 y173).bind fun t176 => (if t176 = true then (if t147 = 260 then (if t154 = 2 then (if t160 = 100 then (if t161 = true then (some (!t166)) else none) else none) else none) else none) else none)) = some r := by first | (rw [hy173]; with_reducible exact H) | (have H2_ := (Option.bind_some _ _).symm.trans H; rw [hy173]; with_reducible exact H2_) | (have H2_ := (Option.bind_some _ _).symm.trans H; with_reducible exact H2_) | with_reducible exact H | (rw [hy173]; exact H) | exact H
   have Ny173 := Aside0.mk hy173
   clear hy173
   replace H := Option.bind_eq_some_iff.mp H
   obtain ⟨t176, A70, H⟩ := H
   replace H : (if t176 = true then (if t147 = 260 then (if t154 = 2 then (if t160 = 100 then (if t161 = true then (some (!t166)) else none) else none) else none) else none) else none) = some r := H
   have A7 := Aside0.mk A70
   clear A70
   by_cases c8 : t176 = true
   · subst c8
     have H1 : (if t147 = 260 then (if t154 = 2 then (if t160 = 100 then (if t161 = true then (some (!t166)) else none) else none) else none) else none) = some r := by rw [if_pos rfl] at H; exact H
     clear H
     have H := H1
     clear H1
     by_cases c9 : t147 = 260
     · rw [if_pos c9] at H
       have c9b0 : (t147 == 260) = true := beq_iff_eq.mpr c9
       have c9b1 : (t147 != 260) = false := bne_eq_false_iff_eq.mpr c9
       clear c9
       by_cases c10 : t154 = 2
       · rw [if_pos c10] at H
         have c10b0 : (t154 == 2) = true := beq_iff_eq.mpr c10
         have c10b1 : (t154 != 2) = false := bne_eq_false_iff_eq.mpr c10
         clear c10
         by_cases c11 : t160 = 100
         · rw [if_pos c11] at H
           have c11b0 : (t160 == 100) = true := beq_iff_eq.mpr c11
           have c11b1 : (t160 != 100) = false := bne_eq_false_iff_eq.mpr c11
           clear c11
           by_cases c12 : t161 = true
           · subst c12
             have H1 : (some (!t166)) = some r := by rw [if_pos rfl] at H; exact H
             clear H
             have H := H1
             clear H1
             obtain rfl := Option.some.inj H
             go_enter Tryd.func9, Tryd.ntmps9
             go_wp2_with (first | ((with_reducible refine gate_dst (N := 12) rfl ?_); (try (refine gate_guard (by rfl) ?_; dsimp only)); refine Kd.R_lit (Kd.int .i64) _ 3 ?hg (N := 12) ?hd (xs := ([30, 30, 30] : List Int)) (inner := [.int .i64 30, .int .i64 30, .int .i64 30]) (ok := fun _ => True) (okp := fun _ => True) ?hr ?hp (fun _ hk => hk) trivial (Below.refl _ _) (Nat.le_refl _) (by simp) ?_; (case hd => rfl); (case hg => rfl); (case hr => first | (go_simp; done) | (go_simp; rfl)); (case hp => exact (Reps.one (show Kd.M (Kd.int .i64) _ _ _ 30 [.int .i64 30] from rfl) (Reps.one (show Kd.M (Kd.int .i64) _ _ _ 30 [.int .i64 30] from rfl) (Reps.one (show Kd.M (Kd.int .i64) _ _ _ 30 [.int .i64 30] from rfl) (Reps.none _ _))))); intro v137 w13 ho14 hb hg_ hnew_; clear hg_ hnew_; (first | rw [← Ny136.out] at ho14 | (simp only [Int.reduceToNat] at ho14; rw [← Ny136.out] at ho14)); have n0_ := Aside0.mk (Kd.R_lower ho14 (below_size (by repeat (first | (with_reducible first | exact HB.out | apply below_alloc | apply pw_below_drewN | apply below_drew1) | exact HB.out)))); have n1_ := Aside0.mk (below_step (by repeat (first | (with_reducible first | exact HB.out | apply below_alloc | apply pw_below_drewN | apply below_drew1) | exact HB.out)) hb); clear HB; have HO138 := n0_; have HB := n1_; clear n0_ n1_; clear hb ho14; obtain ⟨Ao15, co15, eo15⟩ := Kd.R_slice HO138.out; subst eo15) | ((with_reducible refine gate_callee (f := 12) rfl ?_); refine goesL_ (some 13) rfl rfl Tryd.func12 (by kernel_rfl) rfl #[.slice Ao15 y136.length co15, .int .i64 80, .int .i64 10] rfl (by (try simp only [List.map_toArray, List.map_cons, List.map_nil]); first | done | rfl | (simp only [List.length_drop, List.length_take]; rfl)) ?_; (with_reducible refine (pages_Break.calls _ _ y136 80 10 t139 t140 _ ?side1 ?side2 A1.out).mono ?_); (case side1 => repeat (first | exact (Kd.R_reads' HO138.out).2.2 | (with_reducible refine Kd.C_alloc ?_ _) | (with_reducible refine Kd.C_drewN ?_ _) | (with_reducible refine Kd.C_drew ?_))); (case side2 => exact (Kd.R_reads' HO138.out).2.1); rintro e w16 ⟨v141, rfl, ho0, hb⟩; refine ⟨_, rfl, ?_⟩; have n0_ := Aside0.mk (Kd.R_below (qR HO138.out) hb); have n1_ := Aside0.mk (Kd.N_lower (Kd.N_mono (ok' := fun k_ => some k_ ≠ (.slice Ao15 y136.length co15 : Value).ownBlock) (Kd.S_N (Kd.S_bound ho0)) (fun k_ hk_ => (Kd.fresh' (Kd.R_lt (qR HO138.out)) k_ hk_.2.1))) (below_size (by repeat (first | (with_reducible first | exact HB.out | apply below_alloc | apply pw_below_drewN | apply below_drew1) | exact HB.out)))); have n2_ := Aside0.mk (below_step (by repeat (first | (with_reducible first | exact HB.out | apply below_alloc | apply pw_below_drewN | apply below_drew1) | exact HB.out)) hb); clear HO138; clear HB; have HO138 := n0_; have HO142 := n1_; have HB := n2_; clear n0_ n1_ n2_; (try clear hb); (try clear hb2); (try clear hk); (try clear hi); (try clear ho0)) | ((with_reducible refine gate_dst (N := 17) rfl ?_); (try (refine gate_guard (by rfl) ?_; dsimp only)); refine Kd.R_lit (Kd.int .i64) _ 3 ?hg (N := 17) ?hd (xs := ([30, 81] : List Int)) (inner := [.int .i64 30, .int .i64 81]) (ok := fun _ => True) (okp := fun _ => True) ?hr ?hp (fun _ hk => hk) trivial (Below.refl _ _) (Nat.le_refl _) (by simp) ?_; (case hd => rfl); (case hg => rfl); (case hr => first | (go_simp; done) | (go_simp; rfl)); (case hp => exact (Reps.one (show Kd.M (Kd.int .i64) _ _ _ 30 [.int .i64 30] from rfl) (Reps.one (show Kd.M (Kd.int .i64) _ _ _ 81 [.int .i64 81] from rfl) (Reps.none _ _)))); intro v144 w17 ho18 hb hg_ hnew_; clear hg_ hnew_; (first | rw [← Ny143.out] at ho18 | (simp only [Int.reduceToNat] at ho18; rw [← Ny143.out] at ho18)); have n0_ := Aside0.mk (Kd.R_elder' (qR HO138.out) (Kd.R_base ho18) hb); have n1_ := Aside0.mk (Kd.N_elder' (by (with_reducible repeat (first | apply Kd.N_alloc | apply Kd.N_drewN | apply Kd.N_drew)); exact HO142.out) (Kd.R_base ho18) hb); have n2_ := Aside0.mk (Kd.R_lower (Kd.R_new' ho18 (Kd.R_lt (qR HO138.out))) (below_size (by repeat (first | (with_reducible first | exact HB.out | apply below_alloc | apply pw_below_drewN | apply below_drew1) | exact HB.out)))); have n3_ := Aside0.mk (below_step (by repeat (first | (with_reducible first | exact HB.out | apply below_alloc | apply pw_below_drewN | apply below_drew1) | exact HB.out)) hb); clear HO138; clear HO142; clear HB; have HO138 := n0_; have HO142 := n1_; have HO145 := n2_; have HB := n3_; clear n0_ n1_ n2_ n3_; clear hb ho18; obtain ⟨Ao19, co19, eo19⟩ := Kd.R_slice HO145.out; subst eo19) | ((with_reducible refine gate_callee (f := 12) rfl ?_); refine goesL_ (some 18) rfl rfl Tryd.func12 (by kernel_rfl) rfl #[.slice Ao19 y143.length co19, .int .i64 80, .int .i64 10] rfl (by (try simp only [List.map_toArray, List.map_cons, List.map_nil]); first | done | rfl | (simp only [List.length_drop, List.length_take]; rfl)) ?_; (with_reducible refine (pages_Break.calls _ _ y143 80 10 t146 t147 _ ?side1 ?side2 A2.out).mono ?_); (case side1 => repeat (first | exact (Kd.R_reads' HO145.out).2.2 | (with_reducible refine Kd.C_alloc ?_ _) | (with_reducible refine Kd.C_drewN ?_ _) | (with_reducible refine Kd.C_drew ?_))); (case side2 => exact (Kd.R_reads' HO145.out).2.1); rintro e w20 ⟨v148, rfl, ho0, hb⟩; refine ⟨_, rfl, ?_⟩; have n0_ := Aside0.mk (Kd.R_below (qR HO138.out) hb); have n1_ := Aside0.mk (Kd.N_elder' (by (with_reducible repeat (first | apply Kd.N_alloc | apply Kd.N_drewN | apply Kd.N_drew)); exact HO142.out) (by first | exact Kd.N_base ho0 | exact Kd.S_base ho0) hb); have n2_ := Aside0.mk (Kd.R_below (qR HO145.out) hb); have n3_ := Aside0.mk (Kd.N_lower (Kd.N_mono (ok' := fun k_ => some k_ ≠ (.slice Ao15 y136.length co15 : Value).ownBlock ∧ some k_ ≠ (v141 : Value).ownBlock ∧ some k_ ≠ (.slice Ao19 y143.length co19 : Value).ownBlock) (Kd.S_N (Kd.S_bound ho0)) (fun k_ hk_ => ⟨(Kd.fresh' (Kd.R_lt (qR HO138.out)) k_ hk_.2.1), (Kd.fresh' (Kd.N_lt (by (with_reducible repeat (first | apply Kd.N_alloc | apply Kd.N_drewN | apply Kd.N_drew)); exact HO142.out)) k_ hk_.2.1), (Kd.fresh' (Kd.R_lt (qR HO145.out)) k_ hk_.2.1)⟩)) (below_size (by repeat (first | (with_reducible first | exact HB.out | apply below_alloc | apply pw_below_drewN | apply below_drew1) | exact HB.out)))); have n4_ := Aside0.mk (below_step (by repeat (first | (with_reducible first | exact HB.out | apply below_alloc | apply pw_below_drewN | apply below_drew1) | exact HB.out)) hb); clear HO138; clear HO142; clear HO145; clear HB; have HO138 := n0_; have HO142 := n1_; have HO145 := n2_; have HO149 := n3_; have HB := n4_; clear n0_ n1_ n2_ n3_ n4_; (try clear hb); (try clear hb2); (try clear hk); (try clear hi); (try clear ho0)) | ((with_reducible refine gate_dst (N := 22) rfl ?_); (try (refine gate_guard (by rfl) ?_; dsimp only)); refine Kd.R_lit (Kd.int .i64) _ 3 ?hg (N := 22) ?hd (xs := ([0] : List Int)) (inner := [.int .i64 0]) (ok := fun _ => True) (okp := fun _ => True) ?hr ?hp (fun _ hk => hk) trivial (Below.refl _ _) (Nat.le_refl _) (by simp) ?_; (case hd => rfl); (case hg => rfl); (case hr => first | (go_simp; done) | (go_simp; rfl)); (case hp => exact (Reps.one (show Kd.M (Kd.int .i64) _ _ _ 0 [.int .i64 0] from rfl) (Reps.none _ _))); intro v151 w21 ho22 hb hg_ hnew_; clear hg_ hnew_; (first | rw [← Ny150.out] at ho22 | (simp only [Int.reduceToNat] at ho22; rw [← Ny150.out] at ho22)); have n0_ := Aside0.mk (Kd.R_elder' (qR HO138.out) (Kd.R_base ho22) hb); have n1_ := Aside0.mk (Kd.N_elder' (by (with_reducible repeat (first | apply Kd.N_alloc | apply Kd.N_drewN | apply Kd.N_drew)); exact HO142.out) (Kd.R_base ho22) hb); have n2_ := Aside0.mk (Kd.R_elder' (qR HO145.out) (Kd.R_base ho22) hb); have n3_ := Aside0.mk (Kd.N_elder' (by (with_reducible repeat (first | apply Kd.N_alloc | apply Kd.N_drewN | apply Kd.N_drew)); exact HO149.out) (Kd.R_base ho22) hb); have n4_ := Aside0.mk (Kd.R_lower (Kd.R_new' (Kd.R_new' ho22 (Kd.R_lt (qR HO138.out))) (Kd.R_lt (qR HO145.out))) (below_size (by repeat (first | (with_reducible first | exact HB.out | apply below_alloc | apply pw_below_drewN | apply below_drew1) | exact HB.out)))); have n5_ := Aside0.mk (below_step (by repeat (first | (with_reducible first | exact HB.out | apply below_alloc | apply pw_below_drewN | apply below_drew1) | exact HB.out)) hb); clear HO138; clear HO142; clear HO145; clear HO149; clear HB; have HO138 := n0_; have HO142 := n1_; have HO145 := n2_; have HO149 := n3_; have HO152 := n4_; have HB := n5_; clear n0_ n1_ n2_ n3_ n4_ n5_; clear hb ho22; obtain ⟨Ao23, co23, eo23⟩ := Kd.R_slice HO152.out; subst eo23) | ((with_reducible refine gate_callee (f := 12) rfl ?_); refine goesL_ (some 23) rfl rfl Tryd.func12 (by kernel_rfl) rfl #[.slice Ao23 y150.length co23, .int .i64 80, .int .i64 10] rfl (by (try simp only [List.map_toArray, List.map_cons, List.map_nil]); first | done | rfl | (simp only [List.length_drop, List.length_take]; rfl)) ?_; (with_reducible refine (pages_Break.calls _ _ y150 80 10 t153 t154 _ ?side1 ?side2 A3.out).mono ?_); (case side1 => repeat (first | exact (Kd.R_reads' HO152.out).2.2 | (with_reducible refine Kd.C_alloc ?_ _) | (with_reducible refine Kd.C_drewN ?_ _) | (with_reducible refine Kd.C_drew ?_))); (case side2 => exact (Kd.R_reads' HO152.out).2.1); rintro e w24 ⟨v155, rfl, ho0, hb⟩; refine ⟨_, rfl, ?_⟩; have n0_ := Aside0.mk (Kd.R_below (qR HO138.out) hb); have n1_ := Aside0.mk (Kd.N_elder' (by (with_reducible repeat (first | apply Kd.N_alloc | apply Kd.N_drewN | apply Kd.N_drew)); exact HO142.out) (by first | exact Kd.N_base ho0 | exact Kd.S_base ho0) hb); have n2_ := Aside0.mk (Kd.R_below (qR HO145.out) hb); have n3_ := Aside0.mk (Kd.N_elder' (by (with_reducible repeat (first | apply Kd.N_alloc | apply Kd.N_drewN | apply Kd.N_drew)); exact HO149.out) (by first | exact Kd.N_base ho0 | exact Kd.S_base ho0) hb); have n4_ := Aside0.mk (Kd.R_below (qR HO152.out) hb); have n5_ := Aside0.mk (Kd.N_lower (Kd.N_mono (ok' := fun k_ => some k_ ≠ (.slice Ao15 y136.length co15 : Value).ownBlock ∧ some k_ ≠ (v141 : Value).ownBlock ∧ some k_ ≠ (.slice Ao19 y143.length co19 : Value).ownBlock ∧ some k_ ≠ (v148 : Value).ownBlock ∧ some k_ ≠ (.slice Ao23 y150.length co23 : Value).ownBlock) (Kd.S_N (Kd.S_bound ho0)) (fun k_ hk_ => ⟨(Kd.fresh' (Kd.R_lt (qR HO138.out)) k_ hk_.2.1), (Kd.fresh' (Kd.N_lt (by (with_reducible repeat (first | apply Kd.N_alloc | apply Kd.N_drewN | apply Kd.N_drew)); exact HO142.out)) k_ hk_.2.1), (Kd.fresh' (Kd.R_lt (qR HO145.out)) k_ hk_.2.1), (Kd.fresh' (Kd.N_lt (by (with_reducible repeat (first | apply Kd.N_alloc | apply Kd.N_drewN | apply Kd.N_drew)); exact HO149.out)) k_ hk_.2.1), (Kd.fresh' (Kd.R_lt (qR HO152.out)) k_ hk_.2.1)⟩)) (below_size (by repeat (first | (with_reducible first | exact HB.out | apply below_alloc | apply pw_below_drewN | apply below_drew1) | exact HB.out)))); have n6_ := Aside0.mk (below_step (by repeat (first | (with_reducible first | exact HB.out | apply below_alloc | apply pw_below_drewN | apply below_drew1) | exact HB.out)) hb); clear HO138; clear HO142; clear HO145; clear HO149; clear HO152; clear HB; have HO138 := n0_; have HO142 := n1_; have HO145 := n2_; have HO149 := n3_; have HO152 := n4_; have HO156 := n5_; have HB := n6_; clear n0_ n1_ n2_ n3_ n4_ n5_ n6_; (try clear hb); (try clear hb2); (try clear hk); (try clear hi); (try clear ho0)) | ((with_reducible refine gate_dst (N := 28) rfl ?_); (try (refine gate_guard (by rfl) ?_; dsimp only)); refine Kd.R_lit (Kd.int .i64) _ 3 ?hg (N := 28) ?hd (xs := ([30, 30, 30] : List Int)) (inner := [.int .i64 30, .int .i64 30, .int .i64 30]) (ok := fun _ => True) (okp := fun _ => True) ?hr ?hp (fun _ hk => hk) trivial (Below.refl _ _) (Nat.le_refl _) (by simp) ?_; (case hd => rfl); (case hg => rfl); (case hr => first | (go_simp; done) | (go_simp; rfl)); (case hp => exact (Reps.one (show Kd.M (Kd.int .i64) _ _ _ 30 [.int .i64 30] from rfl) (Reps.one (show Kd.M (Kd.int .i64) _ _ _ 30 [.int .i64 30] from rfl) (Reps.one (show Kd.M (Kd.int .i64) _ _ _ 30 [.int .i64 30] from rfl) (Reps.none _ _))))); intro v158 w25 ho26 hb hg_ hnew_; clear hg_ hnew_; (first | rw [← Ny157.out] at ho26 | (simp only [Int.reduceToNat] at ho26; rw [← Ny157.out] at ho26)); have n0_ := Aside0.mk (Kd.R_elder' (qR HO138.out) (Kd.R_base ho26) hb); have n1_ := Aside0.mk (Kd.N_elder' (by (with_reducible repeat (first | apply Kd.N_alloc | apply Kd.N_drewN | apply Kd.N_drew)); exact HO142.out) (Kd.R_base ho26) hb); have n2_ := Aside0.mk (Kd.R_elder' (qR HO145.out) (Kd.R_base ho26) hb); have n3_ := Aside0.mk (Kd.N_elder' (by (with_reducible repeat (first | apply Kd.N_alloc | apply Kd.N_drewN | apply Kd.N_drew)); exact HO149.out) (Kd.R_base ho26) hb); have n4_ := Aside0.mk (Kd.R_elder' (qR HO152.out) (Kd.R_base ho26) hb); have n5_ := Aside0.mk (Kd.N_elder' (by (with_reducible repeat (first | apply Kd.N_alloc | apply Kd.N_drewN | apply Kd.N_drew)); exact HO156.out) (Kd.R_base ho26) hb); have n6_ := Aside0.mk (Kd.R_lower (Kd.R_new' (Kd.R_new' (Kd.R_new' ho26 (Kd.R_lt (qR HO138.out))) (Kd.R_lt (qR HO145.out))) (Kd.R_lt (qR HO152.out))) (below_size (by repeat (first | (with_reducible first | exact HB.out | apply below_alloc | apply pw_below_drewN | apply below_drew1) | exact HB.out)))); have n7_ := Aside0.mk (below_step (by repeat (first | (with_reducible first | exact HB.out | apply below_alloc | apply pw_below_drewN | apply below_drew1) | exact HB.out)) hb); clear HO138; clear HO142; clear HO145; clear HO149; clear HO152; clear HO156; clear HB; have HO138 := n0_; have HO142 := n1_; have HO145 := n2_; have HO149 := n3_; have HO152 := n4_; have HO156 := n5_; have HO159 := n6_; have HB := n7_; clear n0_ n1_ n2_ n3_ n4_ n5_ n6_ n7_; clear hb ho26; obtain ⟨Ao27, co27, eo27⟩ := Kd.N_slice HO142.out; subst eo27; obtain ⟨Ao28, co28, eo28⟩ := Kd.R_slice HO159.out; subst eo28) | ((with_reducible refine gate_callee (f := 14) rfl ?_); refine goesL_ (some 29) rfl rfl Tryd.func14 (by kernel_rfl) rfl #[.slice Ao27 t139.length co27, .slice Ao28 y157.length co28, .int .i64 80, .int .i64 10] rfl (by (try simp only [List.map_toArray, List.map_cons, List.map_nil]); first | done | rfl | (simp only [List.length_drop, List.length_take]; rfl)) ?_; (with_reducible refine (pages_Cost.calls k _ _ t139 _ _ y157 80 10 t160 true _ ?side1 ?side2 ?side3 ?side4 A4.out).mono ?_); (case side1 => repeat (first | exact (Kd.N_reads' HO142.out).2.2 | (with_reducible refine Kd.C_alloc ?_ _) | (with_reducible refine Kd.C_drewN ?_ _) | (with_reducible refine Kd.C_drew ?_))); (case side2 => exact (Kd.N_reads' HO142.out).2.1); (case side3 => repeat (first | exact (Kd.R_reads' HO159.out).2.2 | (with_reducible refine Kd.C_alloc ?_ _) | (with_reducible refine Kd.C_drewN ?_ _) | (with_reducible refine Kd.C_drew ?_))); (case side4 => exact (Kd.R_reads' HO159.out).2.1); rintro e w29 ⟨rfl, hb⟩; refine ⟨_, rfl, ?_⟩; have n0_ := Aside0.mk (Kd.R_below (qR HO138.out) hb); have n1_ := Aside0.mk (Kd.N_below (by (with_reducible repeat (first | apply Kd.N_alloc | apply Kd.N_drewN | apply Kd.N_drew)); exact HO142.out) hb); have n2_ := Aside0.mk (Kd.R_below (qR HO145.out) hb); have n3_ := Aside0.mk (Kd.N_below (by (with_reducible repeat (first | apply Kd.N_alloc | apply Kd.N_drewN | apply Kd.N_drew)); exact HO149.out) hb); have n4_ := Aside0.mk (Kd.R_below (qR HO152.out) hb); have n5_ := Aside0.mk (Kd.N_below (by (with_reducible repeat (first | apply Kd.N_alloc | apply Kd.N_drewN | apply Kd.N_drew)); exact HO156.out) hb); have n6_ := Aside0.mk (Kd.R_below (qR HO159.out) hb); have n7_ := Aside0.mk (below_step (by repeat (first | (with_reducible first | exact HB.out | apply below_alloc | apply pw_below_drewN | apply below_drew1) | exact HB.out)) hb); clear HO138; clear HO142; clear HO145; clear HO149; clear HO152; clear HO156; clear HO159; clear HB; have HO138 := n0_; have HO142 := n1_; have HO145 := n2_; have HO149 := n3_; have HO152 := n4_; have HO156 := n5_; have HO159 := n6_; have HB := n7_; clear n0_ n1_ n2_ n3_ n4_ n5_ n6_ n7_; (try clear hb); (try clear hb2); (try clear hk); (try clear hi)) | ((with_reducible refine gate_dst (N := 33) rfl ?_); (try (refine gate_guard (by rfl) ?_; dsimp only)); refine Kd.R_lit (Kd.int .i64) _ 3 ?hg (N := 33) ?hd (xs := ([30] : List Int)) (inner := [.int .i64 30]) (ok := fun _ => True) (okp := fun _ => True) ?hr ?hp (fun _ hk => hk) trivial (Below.refl _ _) (Nat.le_refl _) (by simp) ?_; (case hd => rfl); (case hg => rfl); (case hr => first | (go_simp; done) | (go_simp; rfl)); (case hp => exact (Reps.one (show Kd.M (Kd.int .i64) _ _ _ 30 [.int .i64 30] from rfl) (Reps.none _ _))); intro v163 w30 ho31 hb hg_ hnew_; clear hg_ hnew_; (first | rw [← Ny162.out] at ho31 | (simp only [Int.reduceToNat] at ho31; rw [← Ny162.out] at ho31)); have n0_ := Aside0.mk (Kd.R_elder' (qR HO138.out) (Kd.R_base ho31) hb); have n1_ := Aside0.mk (Kd.N_elder' (by (with_reducible repeat (first | apply Kd.N_alloc | apply Kd.N_drewN | apply Kd.N_drew)); exact HO142.out) (Kd.R_base ho31) hb); have n2_ := Aside0.mk (Kd.R_elder' (qR HO145.out) (Kd.R_base ho31) hb); have n3_ := Aside0.mk (Kd.N_elder' (by (with_reducible repeat (first | apply Kd.N_alloc | apply Kd.N_drewN | apply Kd.N_drew)); exact HO149.out) (Kd.R_base ho31) hb); have n4_ := Aside0.mk (Kd.R_elder' (qR HO152.out) (Kd.R_base ho31) hb); have n5_ := Aside0.mk (Kd.N_elder' (by (with_reducible repeat (first | apply Kd.N_alloc | apply Kd.N_drewN | apply Kd.N_drew)); exact HO156.out) (Kd.R_base ho31) hb); have n6_ := Aside0.mk (Kd.R_elder' (qR HO159.out) (Kd.R_base ho31) hb); have n7_ := Aside0.mk (Kd.R_lower (Kd.R_new' (Kd.R_new' (Kd.R_new' (Kd.R_new' ho31 (Kd.R_lt (qR HO138.out))) (Kd.R_lt (qR HO145.out))) (Kd.R_lt (qR HO152.out))) (Kd.R_lt (qR HO159.out))) (below_size (by repeat (first | (with_reducible first | exact HB.out | apply below_alloc | apply pw_below_drewN | apply below_drew1) | exact HB.out)))); have n8_ := Aside0.mk (below_step (by repeat (first | (with_reducible first | exact HB.out | apply below_alloc | apply pw_below_drewN | apply below_drew1) | exact HB.out)) hb); clear HO138; clear HO142; clear HO145; clear HO149; clear HO152; clear HO156; clear HO159; clear HB; have HO138 := n0_; have HO142 := n1_; have HO145 := n2_; have HO149 := n3_; have HO152 := n4_; have HO156 := n5_; have HO159 := n6_; have HO164 := n7_; have HB := n8_; clear n0_ n1_ n2_ n3_ n4_ n5_ n6_ n7_ n8_; clear hb ho31; obtain ⟨Ao32, co32, eo32⟩ := Kd.R_slice HO164.out; subst eo32) | ((with_reducible refine gate_callee (f := 14) rfl ?_); refine goesL_ (some 34) rfl rfl Tryd.func14 (by kernel_rfl) rfl #[.slice none 0 0, .slice Ao32 y162.length co32, .int .i64 80, .int .i64 10] rfl (by (try simp only [List.map_toArray, List.map_cons, List.map_nil]); first | done | rfl | (simp only [List.length_drop, List.length_take]; rfl)) ?_; (refine (pages_Cost.calls k _ _ ([] : List (S37)) _ _ y162 80 10 t165 t166 _ ?side1 ?side2 ?side3 ?side4 A5.out).mono ?_); (case side1 => exact Kd.C_nil _ _); (case side2 => exact Nat.le_refl _); (case side3 => repeat (first | exact (Kd.R_reads' HO164.out).2.2 | (with_reducible refine Kd.C_alloc ?_ _) | (with_reducible refine Kd.C_drewN ?_ _) | (with_reducible refine Kd.C_drew ?_))); (case side4 => exact (Kd.R_reads' HO164.out).2.1); rintro e w33 ⟨rfl, hb⟩; refine ⟨_, rfl, ?_⟩; have n0_ := Aside0.mk (Kd.R_below (qR HO138.out) hb); have n1_ := Aside0.mk (Kd.N_below (by (with_reducible repeat (first | apply Kd.N_alloc | apply Kd.N_drewN | apply Kd.N_drew)); exact HO142.out) hb); have n2_ := Aside0.mk (Kd.R_below (qR HO145.out) hb); have n3_ := Aside0.mk (Kd.N_below (by (with_reducible repeat (first | apply Kd.N_alloc | apply Kd.N_drewN | apply Kd.N_drew)); exact HO149.out) hb); have n4_ := Aside0.mk (Kd.R_below (qR HO152.out) hb); have n5_ := Aside0.mk (Kd.N_below (by (with_reducible repeat (first | apply Kd.N_alloc | apply Kd.N_drewN | apply Kd.N_drew)); exact HO156.out) hb); have n6_ := Aside0.mk (Kd.R_below (qR HO159.out) hb); have n7_ := Aside0.mk (Kd.R_below (qR HO164.out) hb); have n8_ := Aside0.mk (below_step (by repeat (first | (with_reducible first | exact HB.out | apply below_alloc | apply pw_below_drewN | apply below_drew1) | exact HB.out)) hb); clear HO138; clear HO142; clear HO145; clear HO149; clear HO152; clear HO156; clear HO159; clear HO164; clear HB; have HO138 := n0_; have HO142 := n1_; have HO145 := n2_; have HO149 := n3_; have HO152 := n4_; have HO156 := n5_; have HO159 := n6_; have HO164 := n7_; have HB := n8_; clear n0_ n1_ n2_ n3_ n4_ n5_ n6_ n7_ n8_; (try clear hb); (try clear hb2); (try clear hk); (try clear hi)) | ((with_reducible refine gate_dst (N := 41) rfl ?_); (try (refine gate_guard (by rfl) ?_; dsimp only)); refine Kd.R_lit (Kd.int .i64) _ 3 ?hg (N := 41) ?hd (xs := ([0, 50] : List Int)) (inner := [.int .i64 0, .int .i64 50]) (ok := fun _ => True) (okp := fun _ => True) ?hr ?hp (fun _ hk => hk) trivial (Below.refl _ _) (Nat.le_refl _) (by simp) ?_; (case hd => rfl); (case hg => rfl); (case hr => first | (go_simp; done) | (go_simp; rfl)); (case hp => exact (Reps.one (show Kd.M (Kd.int .i64) _ _ _ 0 [.int .i64 0] from rfl) (Reps.one (show Kd.M (Kd.int .i64) _ _ _ 50 [.int .i64 50] from rfl) (Reps.none _ _)))); intro v168 w34 ho35 hb hg_ hnew_; clear hg_ hnew_; (first | rw [← Ny167.out] at ho35 | (simp only [Int.reduceToNat] at ho35; rw [← Ny167.out] at ho35)); have n0_ := Aside0.mk (Kd.R_elder' (qR HO138.out) (Kd.R_base ho35) hb); have n1_ := Aside0.mk (Kd.N_elder' (by (with_reducible repeat (first | apply Kd.N_alloc | apply Kd.N_drewN | apply Kd.N_drew)); exact HO142.out) (Kd.R_base ho35) hb); have n2_ := Aside0.mk (Kd.R_elder' (qR HO145.out) (Kd.R_base ho35) hb); have n3_ := Aside0.mk (Kd.N_elder' (by (with_reducible repeat (first | apply Kd.N_alloc | apply Kd.N_drewN | apply Kd.N_drew)); exact HO149.out) (Kd.R_base ho35) hb); have n4_ := Aside0.mk (Kd.R_elder' (qR HO152.out) (Kd.R_base ho35) hb); have n5_ := Aside0.mk (Kd.N_elder' (by (with_reducible repeat (first | apply Kd.N_alloc | apply Kd.N_drewN | apply Kd.N_drew)); exact HO156.out) (Kd.R_base ho35) hb); have n6_ := Aside0.mk (Kd.R_elder' (qR HO159.out) (Kd.R_base ho35) hb); have n7_ := Aside0.mk (Kd.R_elder' (qR HO164.out) (Kd.R_base ho35) hb); have n8_ := Aside0.mk (Kd.R_lower (Kd.R_new' (Kd.R_new' (Kd.R_new' (Kd.R_new' (Kd.R_new' ho35 (Kd.R_lt (qR HO138.out))) (Kd.R_lt (qR HO145.out))) (Kd.R_lt (qR HO152.out))) (Kd.R_lt (qR HO159.out))) (Kd.R_lt (qR HO164.out))) (below_size (by repeat (first | (with_reducible first | exact HB.out | apply below_alloc | apply pw_below_drewN | apply below_drew1) | exact HB.out)))); have n9_ := Aside0.mk (below_step (by repeat (first | (with_reducible first | exact HB.out | apply below_alloc | apply pw_below_drewN | apply below_drew1) | exact HB.out)) hb); clear HO138; clear HO142; clear HO145; clear HO149; clear HO152; clear HO156; clear HO159; clear HO164; clear HB; have HO138 := n0_; have HO142 := n1_; have HO145 := n2_; have HO149 := n3_; have HO152 := n4_; have HO156 := n5_; have HO159 := n6_; have HO164 := n7_; have HO169 := n8_; have HB := n9_; clear n0_ n1_ n2_ n3_ n4_ n5_ n6_ n7_ n8_ n9_; clear hb ho35; obtain ⟨Ao36, co36, eo36⟩ := Kd.R_slice HO169.out; subst eo36) | ((with_reducible refine gate_dst (N := 43) rfl ?_); (try (refine gate_guard (by rfl) ?_; dsimp only)); refine Kd.R_lit (Kd.int .i64) _ 3 ?hg (N := 43) ?hd (xs := ([0] : List Int)) (inner := [.int .i64 0]) (ok := fun _ => True) (okp := fun _ => True) ?hr ?hp (fun _ hk => hk) trivial (Below.refl _ _) (Nat.le_refl _) (by simp) ?_; (case hd => rfl); (case hg => rfl); (case hr => first | (go_simp; done) | (go_simp; rfl)); (case hp => exact (Reps.one (show Kd.M (Kd.int .i64) _ _ _ 0 [.int .i64 0] from rfl) (Reps.none _ _))); intro v171 w37 ho38 hb hg_ hnew_; clear hg_ hnew_; (first | rw [← Ny170.out] at ho38 | (simp only [Int.reduceToNat] at ho38; rw [← Ny170.out] at ho38)); have n0_ := Aside0.mk (Kd.R_elder' (qR HO138.out) (Kd.R_base ho38) hb); have n1_ := Aside0.mk (Kd.N_elder' (by (with_reducible repeat (first | apply Kd.N_alloc | apply Kd.N_drewN | apply Kd.N_drew)); exact HO142.out) (Kd.R_base ho38) hb); have n2_ := Aside0.mk (Kd.R_elder' (qR HO145.out) (Kd.R_base ho38) hb); have n3_ := Aside0.mk (Kd.N_elder' (by (with_reducible repeat (first | apply Kd.N_alloc | apply Kd.N_drewN | apply Kd.N_drew)); exact HO149.out) (Kd.R_base ho38) hb); have n4_ := Aside0.mk (Kd.R_elder' (qR HO152.out) (Kd.R_base ho38) hb); have n5_ := Aside0.mk (Kd.N_elder' (by (with_reducible repeat (first | apply Kd.N_alloc | apply Kd.N_drewN | apply Kd.N_drew)); exact HO156.out) (Kd.R_base ho38) hb); have n6_ := Aside0.mk (Kd.R_elder' (qR HO159.out) (Kd.R_base ho38) hb); have n7_ := Aside0.mk (Kd.R_elder' (qR HO164.out) (Kd.R_base ho38) hb); have n8_ := Aside0.mk (Kd.R_elder' (qR HO169.out) (Kd.R_base ho38) hb); have n9_ := Aside0.mk (Kd.R_lower (Kd.R_new' (Kd.R_new' (Kd.R_new' (Kd.R_new' (Kd.R_new' (Kd.R_new' ho38 (Kd.R_lt (qR HO138.out))) (Kd.R_lt (qR HO145.out))) (Kd.R_lt (qR HO152.out))) (Kd.R_lt (qR HO159.out))) (Kd.R_lt (qR HO164.out))) (Kd.R_lt (qR HO169.out))) (below_size (by repeat (first | (with_reducible first | exact HB.out | apply below_alloc | apply pw_below_drewN | apply below_drew1) | exact HB.out)))); have n10_ := Aside0.mk (below_step (by repeat (first | (with_reducible first | exact HB.out | apply below_alloc | apply pw_below_drewN | apply below_drew1) | exact HB.out)) hb); clear HO138; clear HO142; clear HO145; clear HO149; clear HO152; clear HO156; clear HO159; clear HO164; clear HO169; clear HB; have HO138 := n0_; have HO142 := n1_; have HO145 := n2_; have HO149 := n3_; have HO152 := n4_; have HO156 := n5_; have HO159 := n6_; have HO164 := n7_; have HO169 := n8_; have HO172 := n9_; have HB := n10_; clear n0_ n1_ n2_ n3_ n4_ n5_ n6_ n7_ n8_ n9_ n10_; clear hb ho38; obtain ⟨Ao39, co39, eo39⟩ := Kd.R_slice HO172.out; subst eo39) | ((with_reducible refine gate_dst (N := 45) rfl ?_); (try (refine gate_guard (by rfl) ?_; dsimp only)); refine Kd.N_lit k37 _ 37 ?hg (N' := 45) ?hd (xs := ([(⟨0, 2, y167⟩ : S37), (⟨2, 3, y170⟩ : S37)] : List (S37))) (inner := [.int .i64 0, .int .i64 2, .slice Ao36 y167.length co36, .int .i64 2, .int .i64 3, .slice Ao39 y170.length co39]) (ok := (fun k_ => some k_ ≠ (.slice Ao15 y136.length co15 : Value).ownBlock ∧ some k_ ≠ (.slice Ao27 t139.length co27 : Value).ownBlock ∧ some k_ ≠ (.slice Ao19 y143.length co19 : Value).ownBlock ∧ some k_ ≠ (v148 : Value).ownBlock ∧ some k_ ≠ (.slice Ao23 y150.length co23 : Value).ownBlock ∧ some k_ ≠ (v155 : Value).ownBlock ∧ some k_ ≠ (.slice Ao28 y157.length co28 : Value).ownBlock ∧ some k_ ≠ (.slice Ao32 y162.length co32 : Value).ownBlock)) (okp := (fun k_ => some k_ ≠ (.slice Ao15 y136.length co15 : Value).ownBlock ∧ some k_ ≠ (.slice Ao27 t139.length co27 : Value).ownBlock ∧ some k_ ≠ (.slice Ao19 y143.length co19 : Value).ownBlock ∧ some k_ ≠ (v148 : Value).ownBlock ∧ some k_ ≠ (.slice Ao23 y150.length co23 : Value).ownBlock ∧ some k_ ≠ (v155 : Value).ownBlock ∧ some k_ ≠ (.slice Ao28 y157.length co28 : Value).ownBlock ∧ some k_ ≠ (.slice Ao32 y162.length co32 : Value).ownBlock)) ?hr ?hp (fun _ hk => hk) ((show ∀ k_, w37.heap.size ≤ k_ → (fun k_ => some k_ ≠ (.slice Ao15 y136.length co15 : Value).ownBlock ∧ some k_ ≠ (.slice Ao27 t139.length co27 : Value).ownBlock ∧ some k_ ≠ (.slice Ao19 y143.length co19 : Value).ownBlock ∧ some k_ ≠ (v148 : Value).ownBlock ∧ some k_ ≠ (.slice Ao23 y150.length co23 : Value).ownBlock ∧ some k_ ≠ (v155 : Value).ownBlock ∧ some k_ ≠ (.slice Ao28 y157.length co28 : Value).ownBlock ∧ some k_ ≠ (.slice Ao32 y162.length co32 : Value).ownBlock) k_ from fun k_ hk => ⟨Kd.fresh' (Kd.R_lt (qR HO138.out)) k_ hk, Kd.fresh' (Kd.N_lt (by (with_reducible repeat (first | apply Kd.N_alloc | apply Kd.N_drewN | apply Kd.N_drew)); exact HO142.out)) k_ hk, Kd.fresh' (Kd.R_lt (qR HO145.out)) k_ hk, Kd.fresh' (Kd.N_lt (by (with_reducible repeat (first | apply Kd.N_alloc | apply Kd.N_drewN | apply Kd.N_drew)); exact HO149.out)) k_ hk, Kd.fresh' (Kd.R_lt (qR HO152.out)) k_ hk, Kd.fresh' (Kd.N_lt (by (with_reducible repeat (first | apply Kd.N_alloc | apply Kd.N_drewN | apply Kd.N_drew)); exact HO156.out)) k_ hk, Kd.fresh' (Kd.R_lt (qR HO159.out)) k_ hk, Kd.fresh' (Kd.R_lt (qR HO164.out)) k_ hk⟩) _ (Nat.le_refl _)) (Below.refl _ _) (Nat.le_refl _) (by simp) ?_; (case hd => rfl); (case hg => rfl); (case hr => first | (go_simp; done) | (go_simp; rfl)); (case hp => exact (Reps.c3 (show Kd.FK k37 _ _ (⟨0, 2, y167⟩ : S37) [.int .i64 0, .int .i64 2, .slice Ao36 y167.length co36] from (k37_mkF _ _ (⟨0, 2, y167⟩ : S37) (Kd.R_reads' (Kd.R_mono (ok' := (fun k_ => some k_ ≠ (.slice Ao15 y136.length co15 : Value).ownBlock ∧ some k_ ≠ (.slice Ao27 t139.length co27 : Value).ownBlock ∧ some k_ ≠ (.slice Ao19 y143.length co19 : Value).ownBlock ∧ some k_ ≠ (v148 : Value).ownBlock ∧ some k_ ≠ (.slice Ao23 y150.length co23 : Value).ownBlock ∧ some k_ ≠ (v155 : Value).ownBlock ∧ some k_ ≠ (.slice Ao28 y157.length co28 : Value).ownBlock ∧ some k_ ≠ (.slice Ao32 y162.length co32 : Value).ownBlock)) (Kd.R_apart' (Kd.R_apart' (Kd.R_apart' (HO169.out) (Kd.N_typed HO142.out) (by decide)) (Kd.N_typed HO149.out) (by decide)) (Kd.N_typed HO156.out) (by decide)) (fun k_ hk => ⟨hk.1.1.1.1.1.1.1.1.2, ⟨hk.1.1.2, ⟨hk.1.1.1.1.1.1.1.2, ⟨hk.1.2, ⟨hk.1.1.1.1.1.1.2, ⟨hk.2, ⟨hk.1.1.1.1.1.2, hk.1.1.1.1.2⟩⟩⟩⟩⟩⟩⟩))).2.1 (Kd.R_F (Kd.R_mono (ok' := (fun k_ => some k_ ≠ (.slice Ao15 y136.length co15 : Value).ownBlock ∧ some k_ ≠ (.slice Ao27 t139.length co27 : Value).ownBlock ∧ some k_ ≠ (.slice Ao19 y143.length co19 : Value).ownBlock ∧ some k_ ≠ (v148 : Value).ownBlock ∧ some k_ ≠ (.slice Ao23 y150.length co23 : Value).ownBlock ∧ some k_ ≠ (v155 : Value).ownBlock ∧ some k_ ≠ (.slice Ao28 y157.length co28 : Value).ownBlock ∧ some k_ ≠ (.slice Ao32 y162.length co32 : Value).ownBlock)) (Kd.R_apart' (Kd.R_apart' (Kd.R_apart' (HO169.out) (Kd.N_typed HO142.out) (by decide)) (Kd.N_typed HO149.out) (by decide)) (Kd.N_typed HO156.out) (by decide)) (fun k_ hk => ⟨hk.1.1.1.1.1.1.1.1.2, ⟨hk.1.1.2, ⟨hk.1.1.1.1.1.1.1.2, ⟨hk.1.2, ⟨hk.1.1.1.1.1.1.2, ⟨hk.2, ⟨hk.1.1.1.1.1.2, hk.1.1.1.1.2⟩⟩⟩⟩⟩⟩⟩))))) (Reps.c3 (show Kd.FK k37 _ _ (⟨2, 3, y170⟩ : S37) [.int .i64 2, .int .i64 3, .slice Ao39 y170.length co39] from (k37_mkF _ _ (⟨2, 3, y170⟩ : S37) (Kd.R_reads' (Kd.R_mono (ok' := (fun k_ => some k_ ≠ (.slice Ao15 y136.length co15 : Value).ownBlock ∧ some k_ ≠ (.slice Ao27 t139.length co27 : Value).ownBlock ∧ some k_ ≠ (.slice Ao19 y143.length co19 : Value).ownBlock ∧ some k_ ≠ (v148 : Value).ownBlock ∧ some k_ ≠ (.slice Ao23 y150.length co23 : Value).ownBlock ∧ some k_ ≠ (v155 : Value).ownBlock ∧ some k_ ≠ (.slice Ao28 y157.length co28 : Value).ownBlock ∧ some k_ ≠ (.slice Ao32 y162.length co32 : Value).ownBlock)) (Kd.R_apart' (Kd.R_apart' (Kd.R_apart' (HO172.out) (Kd.N_typed HO142.out) (by decide)) (Kd.N_typed HO149.out) (by decide)) (Kd.N_typed HO156.out) (by decide)) (fun k_ hk => ⟨hk.1.1.1.1.1.1.1.1.2, ⟨hk.1.1.2, ⟨hk.1.1.1.1.1.1.1.2, ⟨hk.1.2, ⟨hk.1.1.1.1.1.1.2, ⟨hk.2, ⟨hk.1.1.1.1.1.2, hk.1.1.1.1.2⟩⟩⟩⟩⟩⟩⟩))).2.1 (Kd.R_F (Kd.R_mono (ok' := (fun k_ => some k_ ≠ (.slice Ao15 y136.length co15 : Value).ownBlock ∧ some k_ ≠ (.slice Ao27 t139.length co27 : Value).ownBlock ∧ some k_ ≠ (.slice Ao19 y143.length co19 : Value).ownBlock ∧ some k_ ≠ (v148 : Value).ownBlock ∧ some k_ ≠ (.slice Ao23 y150.length co23 : Value).ownBlock ∧ some k_ ≠ (v155 : Value).ownBlock ∧ some k_ ≠ (.slice Ao28 y157.length co28 : Value).ownBlock ∧ some k_ ≠ (.slice Ao32 y162.length co32 : Value).ownBlock)) (Kd.R_apart' (Kd.R_apart' (Kd.R_apart' (HO172.out) (Kd.N_typed HO142.out) (by decide)) (Kd.N_typed HO149.out) (by decide)) (Kd.N_typed HO156.out) (by decide)) (fun k_ hk => ⟨hk.1.1.1.1.1.1.1.1.2, ⟨hk.1.1.2, ⟨hk.1.1.1.1.1.1.1.2, ⟨hk.1.2, ⟨hk.1.1.1.1.1.1.2, ⟨hk.2, ⟨hk.1.1.1.1.1.2, hk.1.1.1.1.2⟩⟩⟩⟩⟩⟩⟩))))) (Reps.none _ _)))); intro v174 w40 ho41 hb hg_ hnew_; clear hg_ hnew_; (first | rw [← Ny173.out] at ho41 | (simp only [Int.reduceToNat] at ho41; rw [← Ny173.out] at ho41)); have n0_ := Aside0.mk (Kd.R_below (qR HO138.out) hb); have n1_ := Aside0.mk (Kd.N_elder' (by (with_reducible repeat (first | apply Kd.N_alloc | apply Kd.N_drewN | apply Kd.N_drew)); exact HO142.out) (by first | exact Kd.N_base ho41 | exact Kd.S_base ho41) hb); have n2_ := Aside0.mk (Kd.R_below (qR HO145.out) hb); have n3_ := Aside0.mk (Kd.N_elder' (by (with_reducible repeat (first | apply Kd.N_alloc | apply Kd.N_drewN | apply Kd.N_drew)); exact HO149.out) (by first | exact Kd.N_base ho41 | exact Kd.S_base ho41) hb); have n4_ := Aside0.mk (Kd.R_below (qR HO152.out) hb); have n5_ := Aside0.mk (Kd.N_elder' (by (with_reducible repeat (first | apply Kd.N_alloc | apply Kd.N_drewN | apply Kd.N_drew)); exact HO156.out) (by first | exact Kd.N_base ho41 | exact Kd.S_base ho41) hb); have n6_ := Aside0.mk (Kd.R_below (qR HO159.out) hb); have n7_ := Aside0.mk (Kd.R_below (qR HO164.out) hb); have n8_ := Aside0.mk (Kd.N_lower ho41 (below_size (by repeat (first | (with_reducible first | exact HB.out | apply below_alloc | apply pw_below_drewN | apply below_drew1) | exact HB.out)))); have n9_ := Aside0.mk (below_step (by repeat (first | (with_reducible first | exact HB.out | apply below_alloc | apply pw_below_drewN | apply below_drew1) | exact HB.out)) hb); clear HO138; clear HO142; clear HO145; clear HO149; clear HO152; clear HO156; clear HO159; clear HO164; clear HB; clear HO169; clear HO172; have HO138 := n0_; have HO142 := n1_; have HO145 := n2_; have HO149 := n3_; have HO152 := n4_; have HO156 := n5_; have HO159 := n6_; have HO164 := n7_; have HO175 := n8_; have HB := n9_; clear n0_ n1_ n2_ n3_ n4_ n5_ n6_ n7_ n8_ n9_; clear hb ho41; obtain ⟨Ao42, co42, eo42⟩ := Kd.N_slice HO175.out; subst eo42) | (go_at_call 16; (with_reducible refine (partitaref26_Same.calls k _ _ t139 _ _ y173 true _ ?side1 ?side2 ?side3 ?side4 A7.out).mono ?_); (case side1 => repeat (first | exact (Kd.N_reads' HO142.out).2.2 | (with_reducible refine Kd.C_alloc ?_ _) | (with_reducible refine Kd.C_drewN ?_ _) | (with_reducible refine Kd.C_drew ?_))); (case side2 => exact (Kd.N_reads' HO142.out).2.1); (case side3 => repeat (first | exact (Kd.N_reads' HO175.out).2.2 | (with_reducible refine Kd.C_alloc ?_ _) | (with_reducible refine Kd.C_drewN ?_ _) | (with_reducible refine Kd.C_drew ?_))); (case side4 => exact (Kd.N_reads' HO175.out).2.1); rintro e w' ⟨rfl, ⟨nd, rfl⟩⟩))
             go_ret
             exact ⟨by first | rfl | (simp [errW_none, errW_some] <;> rfl) | (simp [*, errW_none, errW_some] <;> rfl), by repeat (first | (with_reducible first | exact HB.out | apply below_alloc | apply pw_below_drewN | apply below_drew1) | exact HB.out)⟩
           · replace c12 := Bool.eq_false_iff.mpr c12
             subst c12
             have H1 : none = some r := by rw [if_neg (show ¬ (false = true) by decide)] at H; exact H
             cases H1
         · rw [if_neg c11] at H
           cases H
       · rw [if_neg c10] at H
         cases H
     · rw [if_neg c9] at H
       cases H
   · replace c8 := Bool.eq_false_iff.mpr c8
     subst c8
     have H1 : none = some r := by rw [if_neg (show ¬ (false = true) by decide)] at H; exact H
     cases H1
 · rw [if_neg c6] at H
   cases H
/-! ### partitalaw25_Few: function 10 -/
def partitalaw25_Few.f (l0 : List Int) : Option (List Int) := if 0 ≤ (mn (l0.length : Int) 101) then (if (mn (l0.length : Int) 101) ≤ (l0.length : Int) then (some (l0.take ((mn (l0.length : Int) 101) : Int).toNat)) else (none)) else (none)
set_option maxHeartbeats 8000000 in
set_option maxRecDepth 100000 in
theorem partitalaw25_Few.calls (P0_ : Nat → Prop) (u9000_ : Value) (l0 : List Int) (r : List Int) (w0 w : World) (hB : Below w0.heap.size w0 w) (ho0 : Kd.R (Kd.int .i64) 3 w w0.heap.size P0_ u9000_ l0) (h : partitalaw25_Few.f l0 = some r) :
 Calls Tryd.prog 10 #[u9000_] w fun e w' => ∃ v0_ : Value, e = .returned (v0_) ∧ Kd.R (Kd.int .i64) 3 w' w0.heap.size (fun k_ => (P0_ k_ ∨ w.heap.size ≤ k_)) v0_ r ∧ Below w0.heap.size w0 w' ∧ Kept w w' (fun k_ => P0_ k_) := by
 have HO0 := Aside0.mk (show Kd.R (Kd.int .i64) 3 w w0.heap.size (fun k_ => (P0_ k_ ∨ w.heap.size ≤ k_)) u9000_ l0 from Kd.R_mono ho0 (fun k_ hk => (.inl hk)))
 have HK := Aside0.mk (Kept.refl w (fun k_ => P0_ k_))
 have HW0 := Aside0.mk hB.size
 have HB := Aside0.mk hB
 clear hB
 have H : (if 0 ≤ (mn (l0.length : Int) 101) then (if (mn (l0.length : Int) 101) ≤ (l0.length : Int) then (some (l0.take ((mn (l0.length : Int) 101) : Int).toNat)) else (none)) else (none)) = some r := h
 clear h
 obtain ⟨ji2, hji2⟩ : ∃ j_ : Int, (mn (l0.length : Int) 101) = j_ := ⟨_, rfl⟩
 replace H : (if 0 ≤ (ji2) then (if (ji2) ≤ (l0.length : Int) then (some (l0.take ((ji2) : Int).toNat)) else (none)) else (none)) = some r := by first | (rw [hji2] at H; exact H) | (simp only [hji2] at H ⊢; exact H)
 (try (have hji2h : ji2 ≤ 101 := by (rw [← hji2]; unfold mn; (repeat' split) <;> omega)))
 (try (have hji2g : ji2 ≤ 64 := by omega))
 (try (have hji2l : 0 ≤ ji2 := by (rw [← hji2]; unfold mn; (repeat' split) <;> omega)))
 (try (have hji2m : 0 ≤ ji2 := by omega))
 have hji2_ : (if 101 < (l0.length : Int) then 101 else (l0.length : Int)) = ji2 := hji2
 by_cases c3 : 0 ≤ (ji2)
 · rw [if_pos c3] at H
   have c3b0 := eq_true c3
   have c3b1 : decide (0 ≤ (ji2)) = true := decide_eq_true c3
   clear c3
   by_cases c4 : (ji2) ≤ (l0.length : Int)
   · rw [if_pos c4] at H
     have c4b0 := eq_true c4
     have c4b1 : decide ((ji2) ≤ (l0.length : Int)) = true := decide_eq_true c4
     clear c4
     obtain ⟨y177, hy177⟩ : ∃ y_ : List Int, y_ = (l0.take ((ji2) : Int).toNat) := ⟨_, rfl⟩
     replace H : (some y177) = some r := by first | (rw [hy177]; with_reducible exact H) | (have H2_ := (Option.bind_some _ _).symm.trans H; rw [hy177]; with_reducible exact H2_) | (have H2_ := (Option.bind_some _ _).symm.trans H; with_reducible exact H2_) | with_reducible exact H | (rw [hy177]; exact H) | exact H
     have Ny177 := Aside0.mk hy177
     clear hy177
     obtain rfl := Option.some.inj H
     obtain ⟨Ao5, co5, eo5⟩ := Kd.R_slice HO0.out
     subst eo5
     have q6 : ((ji2) : Int) ≤ ((l0.length : Int) : Int) := of_decide_eq_true (by first | (with_reducible assumption) | assumption)
     obtain ⟨i06, hi06, _, hsz6, _⟩ := info_parts info3
     have hcut6 := cut_to (P := Tryd.prog) 22 3 .i64 Tryd.underlying22 hi06 Ao5 l0.length co5 (ji2) (of_decide_eq_true (by first | (with_reducible assumption) | assumption)) q6 (Kd.R_reads' HO0.out).2.1
     have hr6 := Kd.R_take (m := ((ji2) : Int).toNat) HO0.out (by omega)
     have hy6 : y177.length = ((ji2) : Int).toNat := (by rw [Ny177.out, List.length_take]; omega)
     rw [← Ny177.out] at hr6
     rw [← hy6] at hr6 hcut6
     clear hy6 hi06 hsz6 HO0
     have HO179 := Aside0.mk hr6
     clear hr6
     replace q6 := eq_true q6
     go_enter Tryd.func10, Tryd.ntmps10
     go_wp2
     go_ret
     exact ⟨_, by first | rfl | (simp [errW_none, errW_some] <;> rfl) | (simp only [← hji2]; first | rfl | (simp [errW_none, errW_some] <;> rfl)) | (simp [*, errW_none, errW_some] <;> rfl), by (with_reducible repeat (first | apply Kd.R_alloc | apply Kd.R_drewN | apply Kd.R_drew)); exact HO179.out, by repeat (first | (with_reducible first | exact HB.out | apply below_alloc | apply pw_below_drewN | apply below_drew1) | exact HB.out), by repeat (first | (with_reducible first | exact HK.out | apply Kept.alloc | apply Kept.drewN | apply Kept.drew) | exact HK.out)⟩
   · rw [if_neg c4] at H
     exact absurd H (by simp)
 · rw [if_neg c3] at H
   exact absurd H (by simp)

-- NOT PRINTED: function 11 (partitalaw26_few)

end Go.Proofs.YtbpcilbplgbonaaDoor.Q
