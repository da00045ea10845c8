-- Written by a program of this session (myprint.py), function by function.
import Derived.Test.YtocjbedacnlaaaaGreatDoorQ0
import Derived.Test.YtocjbedacnlaaaaGreatDoorQ7
import Derived.Test.YtocjbedacnlaaaaGreatDoorQ16
import Derived.Test.YtocjbedacnlaaaaGreatDoorHandA
import Derived.Test.YtocjbedacnlaaaaGreatDoorSmallMost
namespace Go.Proofs.YtocjbedacnlaaaaGreatDoor.Q
open Go.RowKit Go.Proofs.YtocjbedacnlaaaaGreatDoorW.PrintWords Go.Proofs.YtocjbedacnlaaaaGreatDoorW.PrintLast Go.Proofs.YtocjbedacnlaaaaGreatDoorW.PrintMore
attribute [local go_sem] max2_int min2_int max_two min_two max_three min_three max_four min_four   -- for this text's walks alone
set_option linter.unusedVariables false
set_option linter.unusedSimpArgs false

/-! ### partitalaw23_BeamNear: function 10 -/
mutual
def partitalaw23_BeamNear.j0 : Nat → List Int → Bool → Bool → List Int → Bool → Option (Bool)
 | 0, _, _, _, _, _ => none
 | k + 1, x0, x1, x5, x6, x39 => if x39 = true then (some false) else (if x1 = true then (partitalaw23_BeamNear.j1 k x0 x5 x6 1) else (partitalaw23_BeamNear.j1 k x0 x5 x6 (-1)))
def partitalaw23_BeamNear.j1 : Nat → List Int → Bool → List Int → Int → Option (Bool)
 | 0, _, _, _, _ => none
 | k + 1, x0, x5, x6, x8 => partitalaw23_BeamNear.l0 k x0 x5 x6 x8 false true true 0
def partitalaw23_BeamNear.l0 : Nat → List Int → Bool → List Int → Int → Bool → Bool → Bool → Int → Option (Bool)
 | 0, _, _, _, _, _, _, _, _ => none
 | k + 1, x0, x5, x6, x8, x9, x10, x11, x12 => if x12 < (x6.length : Int) then (if 0 ≤ x12 then (if x12 < (x0.length : Int) then (if (wrap64 (x8 * (wrap64 ((rd x6 x12) - (rd x0 x12))))) < 5 then (some false) else (if x9 = true then (if x12 > 0 then (if x10 = true then (if 0 ≤ (wrap64 (x12 - 1)) then (if (wrap64 (x12 - 1)) < (x6.length : Int) then (if x11 = true then (partitalaw23_BeamNear.l0 k x0 x5 x6 x8 true (decide ((rd x6 x12) ≥ (rd x6 (wrap64 (x12 - 1))))) (decide ((rd x6 x12) ≤ (rd x6 (wrap64 (x12 - 1))))) (wrap64 (x12 + 1))) else (partitalaw23_BeamNear.l0 k x0 x5 x6 x8 true (decide ((rd x6 x12) ≥ (rd x6 (wrap64 (x12 - 1))))) false (wrap64 (x12 + 1)))) else (none)) else (none)) else (if x11 = true then (if 0 ≤ (wrap64 (x12 - 1)) then (if (wrap64 (x12 - 1)) < (x6.length : Int) then (partitalaw23_BeamNear.l0 k x0 x5 x6 x8 true false (decide ((rd x6 x12) ≤ (rd x6 (wrap64 (x12 - 1))))) (wrap64 (x12 + 1))) else (none)) else (none)) else (partitalaw23_BeamNear.l0 k x0 x5 x6 x8 true false false (wrap64 (x12 + 1))))) else (partitalaw23_BeamNear.l0 k x0 x5 x6 x8 true x10 x11 (wrap64 (x12 + 1)))) else (if x12 > 0 then (if x10 = true then (if 0 ≤ (wrap64 (x12 - 1)) then (if (wrap64 (x12 - 1)) < (x6.length : Int) then (if x11 = true then (partitalaw23_BeamNear.l0 k x0 x5 x6 x8 ((wrap64 (x8 * (wrap64 ((rd x6 x12) - (rd x0 x12))))) == 5) (decide ((rd x6 x12) ≥ (rd x6 (wrap64 (x12 - 1))))) (decide ((rd x6 x12) ≤ (rd x6 (wrap64 (x12 - 1))))) (wrap64 (x12 + 1))) else (partitalaw23_BeamNear.l0 k x0 x5 x6 x8 ((wrap64 (x8 * (wrap64 ((rd x6 x12) - (rd x0 x12))))) == 5) (decide ((rd x6 x12) ≥ (rd x6 (wrap64 (x12 - 1))))) false (wrap64 (x12 + 1)))) else (none)) else (none)) else (if x11 = true then (if 0 ≤ (wrap64 (x12 - 1)) then (if (wrap64 (x12 - 1)) < (x6.length : Int) then (partitalaw23_BeamNear.l0 k x0 x5 x6 x8 ((wrap64 (x8 * (wrap64 ((rd x6 x12) - (rd x0 x12))))) == 5) false (decide ((rd x6 x12) ≤ (rd x6 (wrap64 (x12 - 1))))) (wrap64 (x12 + 1))) else (none)) else (none)) else (partitalaw23_BeamNear.l0 k x0 x5 x6 x8 ((wrap64 (x8 * (wrap64 ((rd x6 x12) - (rd x0 x12))))) == 5) false false (wrap64 (x12 + 1))))) else (partitalaw23_BeamNear.l0 k x0 x5 x6 x8 ((wrap64 (x8 * (wrap64 ((rd x6 x12) - (rd x0 x12))))) == 5) x10 x11 (wrap64 (x12 + 1)))))) else (none)) else (none)) else (if 0 ≤ (wrap64 ((x6.length : Int) - 1)) then (if (wrap64 ((x6.length : Int) - 1)) < (x6.length : Int) then (if 0 < (x6.length : Int) then (if x5 = true then (if x9 = true then (if x10 = true then (if (wrap64 ((rd x6 (wrap64 ((x6.length : Int) - 1))) - (rd x6 0))) ≥ (-2) then (some (decide ((wrap64 ((rd x6 (wrap64 ((x6.length : Int) - 1))) - (rd x6 0))) ≤ 2))) else (some false)) else (if x11 = true then (if (wrap64 ((rd x6 (wrap64 ((x6.length : Int) - 1))) - (rd x6 0))) ≥ (-2) then (some (decide ((wrap64 ((rd x6 (wrap64 ((x6.length : Int) - 1))) - (rd x6 0))) ≤ 2))) else (some false)) else (some false))) else (some false)) else (some false)) else (none)) else (none)) else (none))
end
def partitalaw23_BeamNear.f (k : Nat) (l0 : List Int) (a1 : Bool) : Option (Bool) := (partitalaw23_shown.f k).bind fun t588 => ((beam_Slope.f k l0 a1).bind fun bt589 => (if bt589.2 = 0 then (if (bt589.1.length : Int) = (l0.length : Int) then (partitalaw23_BeamNear.j0 k l0 a1 t588 bt589.1 (decide ((bt589.1.length : Int) < 2))) else (partitalaw23_BeamNear.j0 k l0 a1 t588 bt589.1 true)) else (if t588 = true then (some ((bt589.1.length : Int) == 0)) else (some false))))
theorem partitalaw23_BeamNear.mono_l : ∀ k, (∀ y0 y1 y2 y3 y4, LeO (partitalaw23_BeamNear.j0 k y0 y1 y2 y3 y4) (partitalaw23_BeamNear.j0 (k + 1) y0 y1 y2 y3 y4)) ∧ (∀ y0 y1 y2 y3, LeO (partitalaw23_BeamNear.j1 k y0 y1 y2 y3) (partitalaw23_BeamNear.j1 (k + 1) y0 y1 y2 y3)) ∧ (∀ y0 y1 y2 y3 y4 y5 y6 y7, LeO (partitalaw23_BeamNear.l0 k y0 y1 y2 y3 y4 y5 y6 y7) (partitalaw23_BeamNear.l0 (k + 1) y0 y1 y2 y3 y4 y5 y6 y7))
 | 0 => ⟨fun _ _ _ _ _ r h => by simp [partitalaw23_BeamNear.j0] at h, fun _ _ _ _ r h => by simp [partitalaw23_BeamNear.j1] at h, fun _ _ _ _ _ _ _ _ r h => by simp [partitalaw23_BeamNear.l0] at h⟩
 | k + 1 => by
  obtain ⟨ih0, ih1, ih2⟩ := partitalaw23_BeamNear.mono_l k
  refine ⟨?_, ?_, ?_⟩
  · intro y0 y1 y2 y3 y4
    unfold partitalaw23_BeamNear.j0
    repeat' first
    | (with_reducible exact ih0 _ _ _ _ _)
    | (with_reducible exact ih1 _ _ _ _)
    | (with_reducible exact ih2 _ _ _ _ _ _ _ _)
    | (with_reducible exact beam_Slope.mono _ _ _)
    | (with_reducible exact partitalaw23_shown.mono _)
    | (with_reducible exact LeO.refl _)
    | (with_reducible exact LeO.none _)
    | (with_reducible refine LeO.ite ?_ ?_)
    | (with_reducible refine LeO.bind ?_ (fun _ => ?_))
    | exact ih0 _ _ _ _ _
    | exact ih1 _ _ _ _
    | exact ih2 _ _ _ _ _ _ _ _
    | exact beam_Slope.mono _ _ _
    | exact partitalaw23_shown.mono _
    | exact LeO.none _
    | refine LeO.ite ?_ ?_
    | refine LeO.bind ?_ (fun _ => ?_)
  · intro y0 y1 y2 y3
    unfold partitalaw23_BeamNear.j1
    repeat' first
    | (with_reducible exact ih0 _ _ _ _ _)
    | (with_reducible exact ih1 _ _ _ _)
    | (with_reducible exact ih2 _ _ _ _ _ _ _ _)
    | (with_reducible exact beam_Slope.mono _ _ _)
    | (with_reducible exact partitalaw23_shown.mono _)
    | (with_reducible exact LeO.refl _)
    | (with_reducible exact LeO.none _)
    | (with_reducible refine LeO.ite ?_ ?_)
    | (with_reducible refine LeO.bind ?_ (fun _ => ?_))
    | exact ih0 _ _ _ _ _
    | exact ih1 _ _ _ _
    | exact ih2 _ _ _ _ _ _ _ _
    | exact beam_Slope.mono _ _ _
    | exact partitalaw23_shown.mono _
    | exact LeO.none _
    | refine LeO.ite ?_ ?_
    | refine LeO.bind ?_ (fun _ => ?_)
  · intro y0 y1 y2 y3 y4 y5 y6 y7
    unfold partitalaw23_BeamNear.l0
    repeat' first
    | (with_reducible exact ih0 _ _ _ _ _)
    | (with_reducible exact ih1 _ _ _ _)
    | (with_reducible exact ih2 _ _ _ _ _ _ _ _)
    | (with_reducible exact beam_Slope.mono _ _ _)
    | (with_reducible exact partitalaw23_shown.mono _)
    | (with_reducible exact LeO.refl _)
    | (with_reducible exact LeO.none _)
    | (with_reducible refine LeO.ite ?_ ?_)
    | (with_reducible refine LeO.bind ?_ (fun _ => ?_))
    | exact ih0 _ _ _ _ _
    | exact ih1 _ _ _ _
    | exact ih2 _ _ _ _ _ _ _ _
    | exact beam_Slope.mono _ _ _
    | exact partitalaw23_shown.mono _
    | exact LeO.none _
    | refine LeO.ite ?_ ?_
    | refine LeO.bind ?_ (fun _ => ?_)
theorem partitalaw23_BeamNear.mono : ∀ a0 a1 k, LeO (partitalaw23_BeamNear.f k a0 a1) (partitalaw23_BeamNear.f (k + 1) a0 a1) := by
 intro a0 a1 k
 obtain ⟨ih0, ih1, ih2⟩ := partitalaw23_BeamNear.mono_l k
 unfold partitalaw23_BeamNear.f
 repeat' first
  | (with_reducible exact ih0 _ _ _ _ _)
  | (with_reducible exact ih1 _ _ _ _)
  | (with_reducible exact ih2 _ _ _ _ _ _ _ _)
  | (with_reducible exact beam_Slope.mono _ _ _)
  | (with_reducible exact partitalaw23_shown.mono _)
  | (with_reducible exact LeO.refl _)
  | (with_reducible exact LeO.none _)
  | (with_reducible refine LeO.ite ?_ ?_)
  | (with_reducible refine LeO.bind ?_ (fun _ => ?_))
  | exact ih0 _ _ _ _ _
  | exact ih1 _ _ _ _
  | exact ih2 _ _ _ _ _ _ _ _
  | exact beam_Slope.mono _ _ _
  | exact partitalaw23_shown.mono _
  | exact LeO.none _
  | refine LeO.ite ?_ ?_
  | refine LeO.bind ?_ (fun _ => ?_)
set_option maxHeartbeats 8000000 in
set_option maxRecDepth 100000 in
theorem partitalaw23_BeamNear.calls (k : Nat) (A0 : Option Addr) (c0 : Nat) (l0 : List Int) (a1 : Bool) (r : Bool) (w : World) (hr0 : Kd.C (Kd.int .i64) w A0 l0.length l0) (hc0 : l0.length ≤ c0) (h : partitalaw23_BeamNear.f k l0 a1 = some r) (SENTS : Aside0 (SentsE w) := by exact sents_step (by assumption) (by repeat (first | (with_reducible first | exact (by assumption : Aside0 (Below _ _ _)).out | apply below_alloc | apply pw_below_drewN | apply below_drew1 | refine below_set ?_ (Aside0.out (by assumption)))))) :
 Calls Tryz.prog 10 #[.slice A0 l0.length c0, .bool a1] w fun e w' => e = .returned (.bool r) ∧ Below w.heap.size w w' := by
 have HR0 := Aside0.mk hr0
 have HC0 := Aside0.mk hc0
 clear hr0 hc0
 have HB := Aside0.mk (Below.refl w.heap.size w)
 have H : ((partitalaw23_shown.f k).bind fun t588 => ((beam_Slope.f k l0 a1).bind fun bt589 => (if bt589.2 = 0 then (if (bt589.1.length : Int) = (l0.length : Int) then (partitalaw23_BeamNear.j0 k l0 a1 t588 bt589.1 (decide ((bt589.1.length : Int) < 2))) else (partitalaw23_BeamNear.j0 k l0 a1 t588 bt589.1 true)) else (if t588 = true then (some ((bt589.1.length : Int) == 0)) else (some false))))) = some r := h
 clear h
 replace H := Option.bind_eq_some_iff.mp H
 obtain ⟨t588, A30, H⟩ := H
 replace H : ((beam_Slope.f k l0 a1).bind fun bt589 => (if bt589.2 = 0 then (if (bt589.1.length : Int) = (l0.length : Int) then (partitalaw23_BeamNear.j0 k l0 a1 t588 bt589.1 (decide ((bt589.1.length : Int) < 2))) else (partitalaw23_BeamNear.j0 k l0 a1 t588 bt589.1 true)) else (if t588 = true then (some ((bt589.1.length : Int) == 0)) else (some false)))) = some r := H
 have A3 := Aside0.mk A30
 clear A30
 replace H := Option.bind_eq_some_iff.mp H
 obtain ⟨⟨t589, t590⟩, A40, H⟩ := H
 replace H : (if t590 = 0 then (if (t589.length : Int) = (l0.length : Int) then (partitalaw23_BeamNear.j0 k l0 a1 t588 t589 (decide ((t589.length : Int) < 2))) else (partitalaw23_BeamNear.j0 k l0 a1 t588 t589 true)) else (if t588 = true then (some ((t589.length : Int) == 0)) else (some false))) = some r := H
 have A4 := Aside0.mk A40
 clear A40
 by_cases c5 : t590 = 0
 · rw [if_pos c5] at H
   have c5b0 : (t590 == 0) = true := beq_iff_eq.mpr c5
   have c5b1 : (t590 != 0) = false := bne_eq_false_iff_eq.mpr c5
   clear c5
   have HC6 := Aside0.mk H
   clear H
   go_enter Tryz.func10, Tryz.ntmps10
   go_upto_region 5 with (first | (go_at_call 11; (with_reducible refine (partitalaw23_shown.calls k  t588 _ A3.out).mono ?_); rintro e w7 ⟨rfl, hb⟩; replace HB := Aside0.mk (below_step (qW HB.out) hb); (try clear hb); (try clear hb2); (try clear hk); (try clear hi)) | (go_at_call 12; (with_reducible refine (beam_Slope.calls k _ _ l0 a1 t589 t590 _ ?side1 ?side2 A4.out).mono ?_); (case side1 => repeat (first | exact (Kd.C_below HR0.out HB.out) | (with_reducible refine Kd.C_alloc ?_ _) | (with_reducible refine Kd.C_drewN ?_ _) | (with_reducible refine Kd.C_drew ?_))); (case side2 => exact HC0.out); rintro e w8 ⟨v591, rfl, ho0, hb⟩; have HO592 := Aside0.mk (Kd.R_lower ho0 (below_size (qW HB.out))); replace HB := Aside0.mk (below_step (qW HB.out) hb); (try clear hb); (try clear hb2); (try clear hk); (try clear hi); (try clear ho0)))
   repeat (go_quiet (first | (go_at_call 11; (with_reducible refine (partitalaw23_shown.calls k  t588 _ A3.out).mono ?_); rintro e w7 ⟨rfl, hb⟩; replace HB := Aside0.mk (below_step (qW HB.out) hb); (try clear hb); (try clear hb2); (try clear hk); (try clear hi)) | (go_at_call 12; (with_reducible refine (beam_Slope.calls k _ _ l0 a1 t589 t590 _ ?side1 ?side2 A4.out).mono ?_); (case side1 => repeat (first | exact (Kd.C_below HR0.out HB.out) | (with_reducible refine Kd.C_alloc ?_ _) | (with_reducible refine Kd.C_drewN ?_ _) | (with_reducible refine Kd.C_drew ?_))); (case side2 => exact HC0.out); rintro e w8 ⟨v591, rfl, ho0, hb⟩; have HO592 := Aside0.mk (Kd.R_lower ho0 (below_size (qW HB.out))); replace HB := Aside0.mk (below_step (qW HB.out) hb); (try clear hb); (try clear hb2); (try clear hk); (try clear hi); (try clear ho0))); go_upto_region 5 with (first | (go_at_call 11; (with_reducible refine (partitalaw23_shown.calls k  t588 _ A3.out).mono ?_); rintro e w7 ⟨rfl, hb⟩; replace HB := Aside0.mk (below_step (qW HB.out) hb); (try clear hb); (try clear hb2); (try clear hk); (try clear hi)) | (go_at_call 12; (with_reducible refine (beam_Slope.calls k _ _ l0 a1 t589 t590 _ ?side1 ?side2 A4.out).mono ?_); (case side1 => repeat (first | exact (Kd.C_below HR0.out HB.out) | (with_reducible refine Kd.C_alloc ?_ _) | (with_reducible refine Kd.C_drewN ?_ _) | (with_reducible refine Kd.C_drew ?_))); (case side2 => exact HC0.out); rintro e w8 ⟨v591, rfl, ho0, hb⟩; have HO592 := Aside0.mk (Kd.R_lower ho0 (below_size (qW HB.out))); replace HB := Aside0.mk (below_step (qW HB.out) hb); (try clear hb); (try clear hb2); (try clear hk); (try clear hi); (try clear ho0))))
   (try simp only [Act.put, qa_, qz_, qs_])
   go_cut [39] (fun v39 wc => ∃ (kq : Nat) (x39_5 : Bool), v39 = .bool x39_5 ∧ Aside0 (partitalaw23_BeamNear.j0 kq l0 a1 t588 t589 x39_5 = some r) ∧ Aside0 (kq ≤ k) ∧ Aside0 (Kd.R (Kd.int .i64) 3 wc w.heap.size (fun _ => True) v591 t589) ∧ Aside0 (Below w.heap.size w wc))
   case first =>
    have H := HC6.out
    clear HC6
    by_cases c9 : (t589.length : Int) = (l0.length : Int)
    · rw [if_pos c9] at H
      have c9b0 : ((t589.length : Int) == (l0.length : Int)) = true := beq_iff_eq.mpr c9
      have c9b1 : ((t589.length : Int) != (l0.length : Int)) = false := bne_eq_false_iff_eq.mpr c9
      have c9b2 : (t589.length == l0.length) = true := by first | simpa using c9 | (simp at c9 ⊢; omega)
      clear c9
      (first | rw [c9b0] | (simp only [i64_w, i32_w]; rw [c9b0]) | skip)
      have H' := Aside0.mk H
      clear H
      obtain ⟨Ao10, co10, eo10⟩ := Kd.R_slice HO592.out
      subst eo10
      go_wp2
      repeat (go_quiet (fail); try go_wp2)
      go_meet
      case rel => exact ⟨_, (decide ((t589.length : Int) < 2)), (by first | rfl | (simp; done) | (simp [*]; done) | (simp [wrap64]; done)), H', ⟨by first | omega | exact Nat.le_refl _⟩, ⟨by (with_reducible repeat (first | apply Kd.R_alloc | apply Kd.R_drewN | apply Kd.R_drew)); exact HO592.out⟩, ⟨by exact qW HB.out⟩⟩
    · rw [if_neg c9] at H
      have c9b0 : ((t589.length : Int) == (l0.length : Int)) = false := beq_eq_false_iff_ne.mpr c9
      have c9b1 : ((t589.length : Int) != (l0.length : Int)) = true := bne_iff_ne.mpr c9
      have c9b2 : (t589.length == l0.length) = false := by first | simpa using c9 | (simp at c9 ⊢; omega)
      (first | rw [c9b0] | (simp only [i64_w, i32_w]; rw [c9b0]) | skip)
      have H' := Aside0.mk H
      clear H
      obtain ⟨Ao11, co11, eo11⟩ := Kd.R_slice HO592.out
      subst eo11
      go_wp2
      repeat (go_quiet (fail); try go_wp2)
      go_meet
      case rel => exact ⟨_, (true), (by first | rfl | (simp; done) | (simp [*]; done) | (simp [wrap64]; done)), H', ⟨by first | omega | exact Nat.le_refl _⟩, ⟨by (with_reducible repeat (first | apply Kd.R_alloc | apply Kd.R_drewN | apply Kd.R_drew)); exact HO592.out⟩, ⟨by exact qW HB.out⟩⟩
   case rest =>
    clear HC6
    try clear c1
    try clear p2
    try clear c5
    try clear c5b0
    try clear c5b1
    try clear c9
    try clear c9b0
    try clear c9b1
    try clear c9b2
    try clear c10
    obtain ⟨kq, x39_5, rfl, HA, HJ5, HO_6, HB⟩ := hcut
    cases kq with
    | zero => exact absurd HA.out (by simp [partitalaw23_BeamNear.j0])
    | succ kj5 =>
     have H := HA.out
     clear HA
     simp only [partitalaw23_BeamNear.j0] at H
     by_cases c12 : x39_5 = true
     · subst c12
       have H1 : (some false) = some r := by rw [if_pos rfl] at H; exact H
       clear H
       have H := H1
       clear H1
       obtain rfl := Option.some.inj H
       go_wp2
       repeat (go_quiet (fail); try go_wp2)
       go_ret
       exact ⟨by first | rfl | (simp [errW_none, errW_some] <;> rfl) | (simp [*, errW_none, errW_some] <;> rfl), by exact qW HB.out⟩
     · replace c12 := Bool.eq_false_iff.mpr c12
       subst c12
       have H1 : (if a1 = true then (partitalaw23_BeamNear.j1 kj5 l0 t588 t589 1) else (partitalaw23_BeamNear.j1 kj5 l0 t588 t589 (-1))) = some r := by rw [if_neg (show ¬ (false = true) by decide)] at H; exact H
       clear H
       have H := H1
       clear H1
       have HC13 := Aside0.mk H
       clear H
       go_upto_if 41 with (fail)
       repeat (go_quiet (fail); go_upto_if 41 with (fail))
       go_cut [8] (fun v8 wc => ∃ (kq : Nat) (x8_12 : Int), v8 = .int .i64 x8_12 ∧ Aside0 (partitalaw23_BeamNear.j1 kq l0 t588 t589 x8_12 = some r) ∧ Aside0 (kq ≤ kj5) ∧ Aside0 (Kd.R (Kd.int .i64) 3 wc w.heap.size (fun _ => True) v591 t589) ∧ Aside0 (Below w.heap.size w wc))
       case first =>
        have H := HC13.out
        clear HC13
        by_cases c14 : a1 = true
        · subst c14
          have H1 : (partitalaw23_BeamNear.j1 kj5 l0 t588 t589 1) = some r := by rw [if_pos rfl] at H; exact H
          clear H
          have H := H1
          clear H1
          have H' := Aside0.mk H
          clear H
          go_wp2
          repeat (go_quiet (fail); try go_wp2)
          go_meet
          case rel => exact ⟨_, (1), (by first | rfl | (simp; done) | (simp [*]; done) | (simp [wrap64]; done)), H', ⟨by have := HJ5.out; first | omega | exact Nat.le_refl _⟩, ⟨by (with_reducible repeat (first | apply Kd.R_alloc | apply Kd.R_drewN | apply Kd.R_drew)); exact HO_6.out⟩, ⟨by exact qW HB.out⟩⟩
        · replace c14 := Bool.eq_false_iff.mpr c14
          subst c14
          have H1 : (partitalaw23_BeamNear.j1 kj5 l0 t588 t589 (-1)) = some r := by rw [if_neg (show ¬ (false = true) by decide)] at H; exact H
          clear H
          have H := H1
          clear H1
          have H' := Aside0.mk H
          clear H
          go_wp2
          repeat (go_quiet (fail); try go_wp2)
          go_meet
          case rel => exact ⟨_, ((-1)), (by first | rfl | (simp; done) | (simp [*]; done) | (simp [wrap64]; done)), H', ⟨by have := HJ5.out; first | omega | exact Nat.le_refl _⟩, ⟨by (with_reducible repeat (first | apply Kd.R_alloc | apply Kd.R_drewN | apply Kd.R_drew)); exact HO_6.out⟩, ⟨by exact qW HB.out⟩⟩
       case rest =>
        clear HC13
        try clear c1
        try clear p2
        try clear c5
        try clear c5b0
        try clear c5b1
        try clear c9
        try clear c9b0
        try clear c9b1
        try clear c9b2
        try clear c10
        try clear c12
        try clear c14
        try clear p2
        obtain ⟨kq, x8_12, rfl, HA, HJ12, HO_6, HB⟩ := hcut
        cases kq with
        | zero => exact absurd HA.out (by simp [partitalaw23_BeamNear.j1])
        | succ kj12 =>
         have H := HA.out
         clear HA
         simp only [partitalaw23_BeamNear.j1] at H
         have H' := Aside0.mk H
         clear H
         go_wp2
         repeat (go_quiet (fail); try go_wp2)
         go_loopg [9, 10, 11, 12] kj12 (fun kq v9 v10 v11 v12 w' => ∃ (x9_3 : Bool) (x10_3 : Bool) (x11_3 : Bool) (x12_3 : Int), v9 = .bool x9_3 ∧ v10 = .bool x10_3 ∧ v11 = .bool x11_3 ∧ v12 = .int .i64 x12_3 ∧ Aside0 (partitalaw23_BeamNear.l0 kq l0 t588 t589 x8_12 x9_3 x10_3 x11_3 x12_3 = some r) ∧ Aside0 (kq ≤ kj12) ∧ Aside0 (Kd.R (Kd.int .i64) 3 w' w.heap.size (fun _ => True) v591 t589) ∧ Aside0 (Below w.heap.size w w'))
         case atStart => exact ⟨(false), (true), (true), (0), (by first | rfl | (simp; done) | (simp [*]; done) | (simp [wrap64]; done)), (by first | rfl | (simp; done) | (simp [*]; done) | (simp [wrap64]; done)), (by first | rfl | (simp; done) | (simp [*]; done) | (simp [wrap64]; done)), (by first | rfl | (simp; done) | (simp [*]; done) | (simp [wrap64]; done)), H', ⟨Nat.le_refl _⟩, ⟨by (with_reducible repeat (first | apply Kd.R_alloc | apply Kd.R_drewN | apply Kd.R_drew)); exact HO_6.out⟩, ⟨by exact qW HB.out⟩⟩
         case round =>
          clear H'
          try clear c1
          try clear p2
          try clear c5
          try clear c5b0
          try clear c5b1
          try clear c9
          try clear c9b0
          try clear c9b1
          try clear c9b2
          try clear c10
          try clear c12
          try clear c14
          try clear p2
          obtain ⟨x9_3, x10_3, x11_3, x12_3, rfl, rfl, rfl, rfl, HA, HK3, HO_6, HB⟩ := hrel
          cases gk with
          | zero => exact absurd HA.out (by simp [partitalaw23_BeamNear.l0])
          | succ k3 =>
           have H := HA.out
           clear HA
           simp only [partitalaw23_BeamNear.l0] at H
           by_cases c15 : x12_3 < (t589.length : Int)
           · rw [if_pos c15] at H
             have c15b0 : decide (x12_3 < (t589.length : Int)) = true := decide_eq_true c15
             clear c15
             by_cases c16 : 0 ≤ x12_3
             · rw [if_pos c16] at H
               have c16b0 : decide (0 ≤ x12_3) = true := decide_eq_true c16
               clear c16
               by_cases c17 : x12_3 < (l0.length : Int)
               · rw [if_pos c17] at H
                 have c17b0 : decide (x12_3 < (l0.length : Int)) = true := decide_eq_true c17
                 clear c17
                 by_cases c18 : (wrap64 (x8_12 * (wrap64 ((rd t589 x12_3) - (rd l0 x12_3))))) < 5
                 · rw [if_pos c18] at H
                   have c18b0 : decide ((wrap64 (x8_12 * (wrap64 ((rd t589 x12_3) - (rd l0 x12_3))))) < 5) = true := decide_eq_true c18
                   clear c18
                   obtain rfl := Option.some.inj H
                   obtain ⟨Ao19, co19, eo19⟩ := Kd.R_slice HO_6.out
                   subst eo19
                   have p595 : 0 ≤ (x12_3 : Int) := of_decide_eq_true (by first | (with_reducible assumption) | assumption)
                   have q595 : x12_3 < (t589.length : Int) := of_decide_eq_true (by first | (with_reducible assumption) | assumption)
                   obtain ⟨ad595, e595, hx595_0⟩ := Kd.at_int (Kd.R_reads' HO_6.out).2.2 x12_3 p595 q595
                   cases e595
                   replace p595 := eq_true p595
                   replace q595 := eq_true q595
                   have p596 : 0 ≤ (x12_3 : Int) := of_decide_eq_true (by first | (with_reducible assumption) | assumption)
                   have q596 : x12_3 < (l0.length : Int) := of_decide_eq_true (by first | (with_reducible assumption) | assumption)
                   obtain ⟨ad596, e596, hx596_0⟩ := Kd.at_int HR0.out x12_3 p596 q596
                   cases e596
                   replace hx596_0 := (HB.out.cell (World.block_lt_of_cell? w _ hx596_0)).trans hx596_0
                   replace p596 := eq_true p596
                   replace q596 := eq_true q596
                   go_wp2
                   repeat (go_quiet (fail); try go_wp2)
                   go_ret
                   exact ⟨by first | rfl | (simp [errW_none, errW_some] <;> rfl) | (simp [*, errW_none, errW_some] <;> rfl), by exact qW HB.out⟩
                 · rw [if_neg c18] at H
                   have c18b0 : decide ((wrap64 (x8_12 * (wrap64 ((rd t589 x12_3) - (rd l0 x12_3))))) < 5) = false := decide_eq_false c18
                   clear c18
                   by_cases c20 : x9_3 = true
                   · subst c20
                     have H1 : (if x12_3 > 0 then (if x10_3 = true then (if 0 ≤ (wrap64 (x12_3 - 1)) then (if (wrap64 (x12_3 - 1)) < (t589.length : Int) then (if x11_3 = true then (partitalaw23_BeamNear.l0 k3 l0 t588 t589 x8_12 true (decide ((rd t589 x12_3) ≥ (rd t589 (wrap64 (x12_3 - 1))))) (decide ((rd t589 x12_3) ≤ (rd t589 (wrap64 (x12_3 - 1))))) (wrap64 (x12_3 + 1))) else (partitalaw23_BeamNear.l0 k3 l0 t588 t589 x8_12 true (decide ((rd t589 x12_3) ≥ (rd t589 (wrap64 (x12_3 - 1))))) false (wrap64 (x12_3 + 1)))) else (none)) else (none)) else (if x11_3 = true then (if 0 ≤ (wrap64 (x12_3 - 1)) then (if (wrap64 (x12_3 - 1)) < (t589.length : Int) then (partitalaw23_BeamNear.l0 k3 l0 t588 t589 x8_12 true false (decide ((rd t589 x12_3) ≤ (rd t589 (wrap64 (x12_3 - 1))))) (wrap64 (x12_3 + 1))) else (none)) else (none)) else (partitalaw23_BeamNear.l0 k3 l0 t588 t589 x8_12 true false false (wrap64 (x12_3 + 1))))) else (partitalaw23_BeamNear.l0 k3 l0 t588 t589 x8_12 true x10_3 x11_3 (wrap64 (x12_3 + 1)))) = some r := by rw [if_pos rfl] at H; exact H
                     clear H
                     have H := H1
                     clear H1
                     by_cases c21 : x12_3 > 0
                     · rw [if_pos c21] at H
                       have c21b0 : decide (0 < x12_3) = true := decide_eq_true c21
                       clear c21
                       by_cases c22 : x10_3 = true
                       · subst c22
                         have H1 : (if 0 ≤ (wrap64 (x12_3 - 1)) then (if (wrap64 (x12_3 - 1)) < (t589.length : Int) then (if x11_3 = true then (partitalaw23_BeamNear.l0 k3 l0 t588 t589 x8_12 true (decide ((rd t589 x12_3) ≥ (rd t589 (wrap64 (x12_3 - 1))))) (decide ((rd t589 x12_3) ≤ (rd t589 (wrap64 (x12_3 - 1))))) (wrap64 (x12_3 + 1))) else (partitalaw23_BeamNear.l0 k3 l0 t588 t589 x8_12 true (decide ((rd t589 x12_3) ≥ (rd t589 (wrap64 (x12_3 - 1))))) false (wrap64 (x12_3 + 1)))) else (none)) else (none)) = some r := by rw [if_pos rfl] at H; exact H
                         clear H
                         have H := H1
                         clear H1
                         obtain ⟨ji23, hji23⟩ : ∃ j_ : Int, (wrap64 (x12_3 - 1)) = j_ := ⟨_, rfl⟩
                         replace H : (if 0 ≤ (ji23) then (if (ji23) < (t589.length : Int) then (if x11_3 = true then (partitalaw23_BeamNear.l0 k3 l0 t588 t589 x8_12 true (decide ((rd t589 x12_3) ≥ (rd t589 (ji23)))) (decide ((rd t589 x12_3) ≤ (rd t589 (ji23)))) (wrap64 (x12_3 + 1))) else (partitalaw23_BeamNear.l0 k3 l0 t588 t589 x8_12 true (decide ((rd t589 x12_3) ≥ (rd t589 (ji23)))) false (wrap64 (x12_3 + 1)))) else (none)) else (none)) = some r := by first | (rw [hji23] at H; exact H) | (simp only [hji23] at H ⊢; exact H)
                         have hji23w : (IntKind.i64.wrap (x12_3 - 1)) = ji23 := (i64_w _).trans hji23
                         by_cases c24 : 0 ≤ (ji23)
                         · rw [if_pos c24] at H
                           have c24b0 : decide (0 ≤ (ji23)) = true := decide_eq_true c24
                           clear c24
                           by_cases c25 : (ji23) < (t589.length : Int)
                           · rw [if_pos c25] at H
                             have c25b0 : decide ((ji23) < (t589.length : Int)) = true := decide_eq_true c25
                             clear c25
                             by_cases c26 : x11_3 = true
                             · subst c26
                               have H1 : (partitalaw23_BeamNear.l0 k3 l0 t588 t589 x8_12 true (decide ((rd t589 x12_3) ≥ (rd t589 (ji23)))) (decide ((rd t589 x12_3) ≤ (rd t589 (ji23)))) (wrap64 (x12_3 + 1))) = some r := by rw [if_pos rfl] at H; exact H
                               clear H
                               have H := H1
                               clear H1
                               have H' := Aside0.mk H
                               clear H
                               obtain ⟨Ao27, co27, eo27⟩ := Kd.R_slice HO_6.out
                               subst eo27
                               have p595 : 0 ≤ (x12_3 : Int) := of_decide_eq_true (by first | (with_reducible assumption) | assumption)
                               have q595 : x12_3 < (t589.length : Int) := of_decide_eq_true (by first | (with_reducible assumption) | assumption)
                               obtain ⟨ad595, e595, hx595_0⟩ := Kd.at_int (Kd.R_reads' HO_6.out).2.2 x12_3 p595 q595
                               cases e595
                               replace p595 := eq_true p595
                               replace q595 := eq_true q595
                               have p596 : 0 ≤ (x12_3 : Int) := of_decide_eq_true (by first | (with_reducible assumption) | assumption)
                               have q596 : x12_3 < (l0.length : Int) := of_decide_eq_true (by first | (with_reducible assumption) | assumption)
                               obtain ⟨ad596, e596, hx596_0⟩ := Kd.at_int HR0.out x12_3 p596 q596
                               cases e596
                               replace hx596_0 := (HB.out.cell (World.block_lt_of_cell? w _ hx596_0)).trans hx596_0
                               replace p596 := eq_true p596
                               replace q596 := eq_true q596
                               have p597 : 0 ≤ (x12_3 : Int) := of_decide_eq_true (by first | (with_reducible assumption) | assumption)
                               have q597 : x12_3 < (t589.length : Int) := of_decide_eq_true (by first | (with_reducible assumption) | assumption)
                               obtain ⟨ad597, e597, hx597_0⟩ := Kd.at_int (Kd.R_reads' HO_6.out).2.2 x12_3 p597 q597
                               obtain rfl : ad595 = ad597 := (by injection e597)
                               replace p597 := eq_true p597
                               replace q597 := eq_true q597
                               have p598 : 0 ≤ ((ji23) : Int) := of_decide_eq_true (by first | (with_reducible assumption) | assumption)
                               have q598 : (ji23) < (t589.length : Int) := of_decide_eq_true (by first | (with_reducible assumption) | assumption)
                               obtain ⟨ad598, e598, hx598_0⟩ := Kd.at_int (Kd.R_reads' HO_6.out).2.2 (ji23) p598 q598
                               obtain rfl : ad595 = ad598 := (by injection e598)
                               replace p598 := eq_true p598
                               replace q598 := eq_true q598
                               have p599 : 0 ≤ (x12_3 : Int) := of_decide_eq_true (by first | (with_reducible assumption) | assumption)
                               have q599 : x12_3 < (t589.length : Int) := of_decide_eq_true (by first | (with_reducible assumption) | assumption)
                               obtain ⟨ad599, e599, hx599_0⟩ := Kd.at_int (Kd.R_reads' HO_6.out).2.2 x12_3 p599 q599
                               obtain rfl : ad595 = ad599 := (by injection e599)
                               replace p599 := eq_true p599
                               replace q599 := eq_true q599
                               have p600 : 0 ≤ ((ji23) : Int) := of_decide_eq_true (by first | (with_reducible assumption) | assumption)
                               have q600 : (ji23) < (t589.length : Int) := of_decide_eq_true (by first | (with_reducible assumption) | assumption)
                               obtain ⟨ad600, e600, hx600_0⟩ := Kd.at_int (Kd.R_reads' HO_6.out).2.2 (ji23) p600 q600
                               obtain rfl : ad595 = ad600 := (by injection e600)
                               replace p600 := eq_true p600
                               replace q600 := eq_true q600
                               go_wp2
                               repeat (go_quiet (fail); try go_wp2)
                               go_roundg k3
                               case measure => have := HJ5.out; have := HJ12.out; have := HK3.out; omega
                               case rel => exact ⟨(true), (decide ((rd t589 x12_3) ≥ (rd t589 (ji23)))), (decide ((rd t589 x12_3) ≤ (rd t589 (ji23)))), (wrap64 (x12_3 + 1)), (by first | rfl | (simp; done) | (simp [*]; done) | (simp [wrap64]; done)), (by first | rfl | (simp; done) | (simp only [← hji23] <;> (first | rfl | simp)) | (simp [*]; done)), (by first | rfl | (simp; done) | (simp only [← hji23] <;> (first | rfl | simp)) | (simp [*]; done)), (by first | rfl | (simp; done) | (simp [*]; done) | (simp [wrap64]; done)), H', ⟨by have := HJ5.out; have := HJ12.out; have := HK3.out; omega⟩, ⟨by (with_reducible repeat (first | apply Kd.R_alloc | apply Kd.R_drewN | apply Kd.R_drew)); exact HO_6.out⟩, ⟨by exact qW HB.out⟩⟩
                             · replace c26 := Bool.eq_false_iff.mpr c26
                               subst c26
                               have H1 : (partitalaw23_BeamNear.l0 k3 l0 t588 t589 x8_12 true (decide ((rd t589 x12_3) ≥ (rd t589 (ji23)))) false (wrap64 (x12_3 + 1))) = some r := by rw [if_neg (show ¬ (false = true) by decide)] at H; exact H
                               clear H
                               have H := H1
                               clear H1
                               have H' := Aside0.mk H
                               clear H
                               obtain ⟨Ao28, co28, eo28⟩ := Kd.R_slice HO_6.out
                               subst eo28
                               have p595 : 0 ≤ (x12_3 : Int) := of_decide_eq_true (by first | (with_reducible assumption) | assumption)
                               have q595 : x12_3 < (t589.length : Int) := of_decide_eq_true (by first | (with_reducible assumption) | assumption)
                               obtain ⟨ad595, e595, hx595_0⟩ := Kd.at_int (Kd.R_reads' HO_6.out).2.2 x12_3 p595 q595
                               cases e595
                               replace p595 := eq_true p595
                               replace q595 := eq_true q595
                               have p596 : 0 ≤ (x12_3 : Int) := of_decide_eq_true (by first | (with_reducible assumption) | assumption)
                               have q596 : x12_3 < (l0.length : Int) := of_decide_eq_true (by first | (with_reducible assumption) | assumption)
                               obtain ⟨ad596, e596, hx596_0⟩ := Kd.at_int HR0.out x12_3 p596 q596
                               cases e596
                               replace hx596_0 := (HB.out.cell (World.block_lt_of_cell? w _ hx596_0)).trans hx596_0
                               replace p596 := eq_true p596
                               replace q596 := eq_true q596
                               have p597 : 0 ≤ (x12_3 : Int) := of_decide_eq_true (by first | (with_reducible assumption) | assumption)
                               have q597 : x12_3 < (t589.length : Int) := of_decide_eq_true (by first | (with_reducible assumption) | assumption)
                               obtain ⟨ad597, e597, hx597_0⟩ := Kd.at_int (Kd.R_reads' HO_6.out).2.2 x12_3 p597 q597
                               obtain rfl : ad595 = ad597 := (by injection e597)
                               replace p597 := eq_true p597
                               replace q597 := eq_true q597
                               have p598 : 0 ≤ ((ji23) : Int) := of_decide_eq_true (by first | (with_reducible assumption) | assumption)
                               have q598 : (ji23) < (t589.length : Int) := of_decide_eq_true (by first | (with_reducible assumption) | assumption)
                               obtain ⟨ad598, e598, hx598_0⟩ := Kd.at_int (Kd.R_reads' HO_6.out).2.2 (ji23) p598 q598
                               obtain rfl : ad595 = ad598 := (by injection e598)
                               replace p598 := eq_true p598
                               replace q598 := eq_true q598
                               go_wp2
                               repeat (go_quiet (fail); try go_wp2)
                               go_roundg k3
                               case measure => have := HJ5.out; have := HJ12.out; have := HK3.out; omega
                               case rel => exact ⟨(true), (decide ((rd t589 x12_3) ≥ (rd t589 (ji23)))), (false), (wrap64 (x12_3 + 1)), (by first | rfl | (simp; done) | (simp [*]; done) | (simp [wrap64]; done)), (by first | rfl | (simp; done) | (simp only [← hji23] <;> (first | rfl | simp)) | (simp [*]; done)), (by first | rfl | (simp; done) | (simp [*]; done) | (simp [wrap64]; done)), (by first | rfl | (simp; done) | (simp [*]; done) | (simp [wrap64]; done)), H', ⟨by have := HJ5.out; have := HJ12.out; have := HK3.out; omega⟩, ⟨by (with_reducible repeat (first | apply Kd.R_alloc | apply Kd.R_drewN | apply Kd.R_drew)); exact HO_6.out⟩, ⟨by exact qW HB.out⟩⟩
                           · rw [if_neg c25] at H
                             exact absurd H (by simp)
                         · rw [if_neg c24] at H
                           exact absurd H (by simp)
                       · replace c22 := Bool.eq_false_iff.mpr c22
                         subst c22
                         have H1 : (if x11_3 = true then (if 0 ≤ (wrap64 (x12_3 - 1)) then (if (wrap64 (x12_3 - 1)) < (t589.length : Int) then (partitalaw23_BeamNear.l0 k3 l0 t588 t589 x8_12 true false (decide ((rd t589 x12_3) ≤ (rd t589 (wrap64 (x12_3 - 1))))) (wrap64 (x12_3 + 1))) else (none)) else (none)) else (partitalaw23_BeamNear.l0 k3 l0 t588 t589 x8_12 true false false (wrap64 (x12_3 + 1)))) = some r := by rw [if_neg (show ¬ (false = true) by decide)] at H; exact H
                         clear H
                         have H := H1
                         clear H1
                         by_cases c29 : x11_3 = true
                         · subst c29
                           have H1 : (if 0 ≤ (wrap64 (x12_3 - 1)) then (if (wrap64 (x12_3 - 1)) < (t589.length : Int) then (partitalaw23_BeamNear.l0 k3 l0 t588 t589 x8_12 true false (decide ((rd t589 x12_3) ≤ (rd t589 (wrap64 (x12_3 - 1))))) (wrap64 (x12_3 + 1))) else (none)) else (none)) = some r := by rw [if_pos rfl] at H; exact H
                           clear H
                           have H := H1
                           clear H1
                           obtain ⟨ji30, hji30⟩ : ∃ j_ : Int, (wrap64 (x12_3 - 1)) = j_ := ⟨_, rfl⟩
                           replace H : (if 0 ≤ (ji30) then (if (ji30) < (t589.length : Int) then (partitalaw23_BeamNear.l0 k3 l0 t588 t589 x8_12 true false (decide ((rd t589 x12_3) ≤ (rd t589 (ji30)))) (wrap64 (x12_3 + 1))) else (none)) else (none)) = some r := by first | (rw [hji30] at H; exact H) | (simp only [hji30] at H ⊢; exact H)
                           have hji30w : (IntKind.i64.wrap (x12_3 - 1)) = ji30 := (i64_w _).trans hji30
                           by_cases c31 : 0 ≤ (ji30)
                           · rw [if_pos c31] at H
                             have c31b0 : decide (0 ≤ (ji30)) = true := decide_eq_true c31
                             clear c31
                             by_cases c32 : (ji30) < (t589.length : Int)
                             · rw [if_pos c32] at H
                               have c32b0 : decide ((ji30) < (t589.length : Int)) = true := decide_eq_true c32
                               clear c32
                               have H' := Aside0.mk H
                               clear H
                               obtain ⟨Ao33, co33, eo33⟩ := Kd.R_slice HO_6.out
                               subst eo33
                               have p595 : 0 ≤ (x12_3 : Int) := of_decide_eq_true (by first | (with_reducible assumption) | assumption)
                               have q595 : x12_3 < (t589.length : Int) := of_decide_eq_true (by first | (with_reducible assumption) | assumption)
                               obtain ⟨ad595, e595, hx595_0⟩ := Kd.at_int (Kd.R_reads' HO_6.out).2.2 x12_3 p595 q595
                               cases e595
                               replace p595 := eq_true p595
                               replace q595 := eq_true q595
                               have p596 : 0 ≤ (x12_3 : Int) := of_decide_eq_true (by first | (with_reducible assumption) | assumption)
                               have q596 : x12_3 < (l0.length : Int) := of_decide_eq_true (by first | (with_reducible assumption) | assumption)
                               obtain ⟨ad596, e596, hx596_0⟩ := Kd.at_int HR0.out x12_3 p596 q596
                               cases e596
                               replace hx596_0 := (HB.out.cell (World.block_lt_of_cell? w _ hx596_0)).trans hx596_0
                               replace p596 := eq_true p596
                               replace q596 := eq_true q596
                               have p601 : 0 ≤ (x12_3 : Int) := of_decide_eq_true (by first | (with_reducible assumption) | assumption)
                               have q601 : x12_3 < (t589.length : Int) := of_decide_eq_true (by first | (with_reducible assumption) | assumption)
                               obtain ⟨ad601, e601, hx601_0⟩ := Kd.at_int (Kd.R_reads' HO_6.out).2.2 x12_3 p601 q601
                               obtain rfl : ad595 = ad601 := (by injection e601)
                               replace p601 := eq_true p601
                               replace q601 := eq_true q601
                               have p602 : 0 ≤ ((ji30) : Int) := of_decide_eq_true (by first | (with_reducible assumption) | assumption)
                               have q602 : (ji30) < (t589.length : Int) := of_decide_eq_true (by first | (with_reducible assumption) | assumption)
                               obtain ⟨ad602, e602, hx602_0⟩ := Kd.at_int (Kd.R_reads' HO_6.out).2.2 (ji30) p602 q602
                               obtain rfl : ad595 = ad602 := (by injection e602)
                               replace p602 := eq_true p602
                               replace q602 := eq_true q602
                               go_wp2
                               repeat (go_quiet (fail); try go_wp2)
                               go_roundg k3
                               case measure => have := HJ5.out; have := HJ12.out; have := HK3.out; omega
                               case rel => exact ⟨(true), (false), (decide ((rd t589 x12_3) ≤ (rd t589 (ji30)))), (wrap64 (x12_3 + 1)), (by first | rfl | (simp; done) | (simp [*]; done) | (simp [wrap64]; done)), (by first | rfl | (simp; done) | (simp [*]; done) | (simp [wrap64]; done)), (by first | rfl | (simp; done) | (simp only [← hji30] <;> (first | rfl | simp)) | (simp [*]; done)), (by first | rfl | (simp; done) | (simp [*]; done) | (simp [wrap64]; done)), H', ⟨by have := HJ5.out; have := HJ12.out; have := HK3.out; omega⟩, ⟨by (with_reducible repeat (first | apply Kd.R_alloc | apply Kd.R_drewN | apply Kd.R_drew)); exact HO_6.out⟩, ⟨by exact qW HB.out⟩⟩
                             · rw [if_neg c32] at H
                               exact absurd H (by simp)
                           · rw [if_neg c31] at H
                             exact absurd H (by simp)
                         · replace c29 := Bool.eq_false_iff.mpr c29
                           subst c29
                           have H1 : (partitalaw23_BeamNear.l0 k3 l0 t588 t589 x8_12 true false false (wrap64 (x12_3 + 1))) = some r := by rw [if_neg (show ¬ (false = true) by decide)] at H; exact H
                           clear H
                           have H := H1
                           clear H1
                           have H' := Aside0.mk H
                           clear H
                           obtain ⟨Ao34, co34, eo34⟩ := Kd.R_slice HO_6.out
                           subst eo34
                           have p595 : 0 ≤ (x12_3 : Int) := of_decide_eq_true (by first | (with_reducible assumption) | assumption)
                           have q595 : x12_3 < (t589.length : Int) := of_decide_eq_true (by first | (with_reducible assumption) | assumption)
                           obtain ⟨ad595, e595, hx595_0⟩ := Kd.at_int (Kd.R_reads' HO_6.out).2.2 x12_3 p595 q595
                           cases e595
                           replace p595 := eq_true p595
                           replace q595 := eq_true q595
                           have p596 : 0 ≤ (x12_3 : Int) := of_decide_eq_true (by first | (with_reducible assumption) | assumption)
                           have q596 : x12_3 < (l0.length : Int) := of_decide_eq_true (by first | (with_reducible assumption) | assumption)
                           obtain ⟨ad596, e596, hx596_0⟩ := Kd.at_int HR0.out x12_3 p596 q596
                           cases e596
                           replace hx596_0 := (HB.out.cell (World.block_lt_of_cell? w _ hx596_0)).trans hx596_0
                           replace p596 := eq_true p596
                           replace q596 := eq_true q596
                           go_wp2
                           repeat (go_quiet (fail); try go_wp2)
                           go_roundg k3
                           case measure => have := HJ5.out; have := HJ12.out; have := HK3.out; omega
                           case rel => exact ⟨(true), (false), (false), (wrap64 (x12_3 + 1)), (by first | rfl | (simp; done) | (simp [*]; done) | (simp [wrap64]; done)), (by first | rfl | (simp; done) | (simp [*]; done) | (simp [wrap64]; done)), (by first | rfl | (simp; done) | (simp [*]; done) | (simp [wrap64]; done)), (by first | rfl | (simp; done) | (simp [*]; done) | (simp [wrap64]; done)), H', ⟨by have := HJ5.out; have := HJ12.out; have := HK3.out; omega⟩, ⟨by (with_reducible repeat (first | apply Kd.R_alloc | apply Kd.R_drewN | apply Kd.R_drew)); exact HO_6.out⟩, ⟨by exact qW HB.out⟩⟩
                     · rw [if_neg c21] at H
                       have c21b0 : decide (0 < x12_3) = false := decide_eq_false c21
                       clear c21
                       have H' := Aside0.mk H
                       clear H
                       obtain ⟨Ao35, co35, eo35⟩ := Kd.R_slice HO_6.out
                       subst eo35
                       have p595 : 0 ≤ (x12_3 : Int) := of_decide_eq_true (by first | (with_reducible assumption) | assumption)
                       have q595 : x12_3 < (t589.length : Int) := of_decide_eq_true (by first | (with_reducible assumption) | assumption)
                       obtain ⟨ad595, e595, hx595_0⟩ := Kd.at_int (Kd.R_reads' HO_6.out).2.2 x12_3 p595 q595
                       cases e595
                       replace p595 := eq_true p595
                       replace q595 := eq_true q595
                       have p596 : 0 ≤ (x12_3 : Int) := of_decide_eq_true (by first | (with_reducible assumption) | assumption)
                       have q596 : x12_3 < (l0.length : Int) := of_decide_eq_true (by first | (with_reducible assumption) | assumption)
                       obtain ⟨ad596, e596, hx596_0⟩ := Kd.at_int HR0.out x12_3 p596 q596
                       cases e596
                       replace hx596_0 := (HB.out.cell (World.block_lt_of_cell? w _ hx596_0)).trans hx596_0
                       replace p596 := eq_true p596
                       replace q596 := eq_true q596
                       go_wp2
                       repeat (go_quiet (fail); try go_wp2)
                       go_roundg k3
                       case measure => have := HJ5.out; have := HJ12.out; have := HK3.out; omega
                       case rel => exact ⟨(true), (x10_3), (x11_3), (wrap64 (x12_3 + 1)), (by first | rfl | (simp; done) | (simp [*]; done) | (simp [wrap64]; done)), (by first | rfl | (simp; done) | (simp [*]; done) | (simp [wrap64]; done)), (by first | rfl | (simp; done) | (simp [*]; done) | (simp [wrap64]; done)), (by first | rfl | (simp; done) | (simp [*]; done) | (simp [wrap64]; done)), H', ⟨by have := HJ5.out; have := HJ12.out; have := HK3.out; omega⟩, ⟨by (with_reducible repeat (first | apply Kd.R_alloc | apply Kd.R_drewN | apply Kd.R_drew)); exact HO_6.out⟩, ⟨by exact qW HB.out⟩⟩
                   · replace c20 := Bool.eq_false_iff.mpr c20
                     subst c20
                     have H1 : (if x12_3 > 0 then (if x10_3 = true then (if 0 ≤ (wrap64 (x12_3 - 1)) then (if (wrap64 (x12_3 - 1)) < (t589.length : Int) then (if x11_3 = true then (partitalaw23_BeamNear.l0 k3 l0 t588 t589 x8_12 ((wrap64 (x8_12 * (wrap64 ((rd t589 x12_3) - (rd l0 x12_3))))) == 5) (decide ((rd t589 x12_3) ≥ (rd t589 (wrap64 (x12_3 - 1))))) (decide ((rd t589 x12_3) ≤ (rd t589 (wrap64 (x12_3 - 1))))) (wrap64 (x12_3 + 1))) else (partitalaw23_BeamNear.l0 k3 l0 t588 t589 x8_12 ((wrap64 (x8_12 * (wrap64 ((rd t589 x12_3) - (rd l0 x12_3))))) == 5) (decide ((rd t589 x12_3) ≥ (rd t589 (wrap64 (x12_3 - 1))))) false (wrap64 (x12_3 + 1)))) else (none)) else (none)) else (if x11_3 = true then (if 0 ≤ (wrap64 (x12_3 - 1)) then (if (wrap64 (x12_3 - 1)) < (t589.length : Int) then (partitalaw23_BeamNear.l0 k3 l0 t588 t589 x8_12 ((wrap64 (x8_12 * (wrap64 ((rd t589 x12_3) - (rd l0 x12_3))))) == 5) false (decide ((rd t589 x12_3) ≤ (rd t589 (wrap64 (x12_3 - 1))))) (wrap64 (x12_3 + 1))) else (none)) else (none)) else (partitalaw23_BeamNear.l0 k3 l0 t588 t589 x8_12 ((wrap64 (x8_12 * (wrap64 ((rd t589 x12_3) - (rd l0 x12_3))))) == 5) false false (wrap64 (x12_3 + 1))))) else (partitalaw23_BeamNear.l0 k3 l0 t588 t589 x8_12 ((wrap64 (x8_12 * (wrap64 ((rd t589 x12_3) - (rd l0 x12_3))))) == 5) x10_3 x11_3 (wrap64 (x12_3 + 1)))) = some r := by rw [if_neg (show ¬ (false = true) by decide)] at H; exact H
                     clear H
                     have H := H1
                     clear H1
                     by_cases c36 : x12_3 > 0
                     · rw [if_pos c36] at H
                       have c36b0 : decide (0 < x12_3) = true := decide_eq_true c36
                       clear c36
                       by_cases c37 : x10_3 = true
                       · subst c37
                         have H1 : (if 0 ≤ (wrap64 (x12_3 - 1)) then (if (wrap64 (x12_3 - 1)) < (t589.length : Int) then (if x11_3 = true then (partitalaw23_BeamNear.l0 k3 l0 t588 t589 x8_12 ((wrap64 (x8_12 * (wrap64 ((rd t589 x12_3) - (rd l0 x12_3))))) == 5) (decide ((rd t589 x12_3) ≥ (rd t589 (wrap64 (x12_3 - 1))))) (decide ((rd t589 x12_3) ≤ (rd t589 (wrap64 (x12_3 - 1))))) (wrap64 (x12_3 + 1))) else (partitalaw23_BeamNear.l0 k3 l0 t588 t589 x8_12 ((wrap64 (x8_12 * (wrap64 ((rd t589 x12_3) - (rd l0 x12_3))))) == 5) (decide ((rd t589 x12_3) ≥ (rd t589 (wrap64 (x12_3 - 1))))) false (wrap64 (x12_3 + 1)))) else (none)) else (none)) = some r := by rw [if_pos rfl] at H; exact H
                         clear H
                         have H := H1
                         clear H1
                         obtain ⟨ji38, hji38⟩ : ∃ j_ : Int, (wrap64 (x12_3 - 1)) = j_ := ⟨_, rfl⟩
                         replace H : (if 0 ≤ (ji38) then (if (ji38) < (t589.length : Int) then (if x11_3 = true then (partitalaw23_BeamNear.l0 k3 l0 t588 t589 x8_12 ((wrap64 (x8_12 * (wrap64 ((rd t589 x12_3) - (rd l0 x12_3))))) == 5) (decide ((rd t589 x12_3) ≥ (rd t589 (ji38)))) (decide ((rd t589 x12_3) ≤ (rd t589 (ji38)))) (wrap64 (x12_3 + 1))) else (partitalaw23_BeamNear.l0 k3 l0 t588 t589 x8_12 ((wrap64 (x8_12 * (wrap64 ((rd t589 x12_3) - (rd l0 x12_3))))) == 5) (decide ((rd t589 x12_3) ≥ (rd t589 (ji38)))) false (wrap64 (x12_3 + 1)))) else (none)) else (none)) = some r := by first | (rw [hji38] at H; exact H) | (simp only [hji38] at H ⊢; exact H)
                         have hji38w : (IntKind.i64.wrap (x12_3 - 1)) = ji38 := (i64_w _).trans hji38
                         by_cases c39 : 0 ≤ (ji38)
                         · rw [if_pos c39] at H
                           have c39b0 : decide (0 ≤ (ji38)) = true := decide_eq_true c39
                           clear c39
                           by_cases c40 : (ji38) < (t589.length : Int)
                           · rw [if_pos c40] at H
                             have c40b0 : decide ((ji38) < (t589.length : Int)) = true := decide_eq_true c40
                             clear c40
                             by_cases c41 : x11_3 = true
                             · subst c41
                               have H1 : (partitalaw23_BeamNear.l0 k3 l0 t588 t589 x8_12 ((wrap64 (x8_12 * (wrap64 ((rd t589 x12_3) - (rd l0 x12_3))))) == 5) (decide ((rd t589 x12_3) ≥ (rd t589 (ji38)))) (decide ((rd t589 x12_3) ≤ (rd t589 (ji38)))) (wrap64 (x12_3 + 1))) = some r := by rw [if_pos rfl] at H; exact H
                               clear H
                               have H := H1
                               clear H1
                               have H' := Aside0.mk H
                               clear H
                               obtain ⟨Ao42, co42, eo42⟩ := Kd.R_slice HO_6.out
                               subst eo42
                               have p595 : 0 ≤ (x12_3 : Int) := of_decide_eq_true (by first | (with_reducible assumption) | assumption)
                               have q595 : x12_3 < (t589.length : Int) := of_decide_eq_true (by first | (with_reducible assumption) | assumption)
                               obtain ⟨ad595, e595, hx595_0⟩ := Kd.at_int (Kd.R_reads' HO_6.out).2.2 x12_3 p595 q595
                               cases e595
                               replace p595 := eq_true p595
                               replace q595 := eq_true q595
                               have p596 : 0 ≤ (x12_3 : Int) := of_decide_eq_true (by first | (with_reducible assumption) | assumption)
                               have q596 : x12_3 < (l0.length : Int) := of_decide_eq_true (by first | (with_reducible assumption) | assumption)
                               obtain ⟨ad596, e596, hx596_0⟩ := Kd.at_int HR0.out x12_3 p596 q596
                               cases e596
                               replace hx596_0 := (HB.out.cell (World.block_lt_of_cell? w _ hx596_0)).trans hx596_0
                               replace p596 := eq_true p596
                               replace q596 := eq_true q596
                               have p603 : 0 ≤ (x12_3 : Int) := of_decide_eq_true (by first | (with_reducible assumption) | assumption)
                               have q603 : x12_3 < (t589.length : Int) := of_decide_eq_true (by first | (with_reducible assumption) | assumption)
                               obtain ⟨ad603, e603, hx603_0⟩ := Kd.at_int (Kd.R_reads' HO_6.out).2.2 x12_3 p603 q603
                               obtain rfl : ad595 = ad603 := (by injection e603)
                               replace p603 := eq_true p603
                               replace q603 := eq_true q603
                               have p604 : 0 ≤ ((ji38) : Int) := of_decide_eq_true (by first | (with_reducible assumption) | assumption)
                               have q604 : (ji38) < (t589.length : Int) := of_decide_eq_true (by first | (with_reducible assumption) | assumption)
                               obtain ⟨ad604, e604, hx604_0⟩ := Kd.at_int (Kd.R_reads' HO_6.out).2.2 (ji38) p604 q604
                               obtain rfl : ad595 = ad604 := (by injection e604)
                               replace p604 := eq_true p604
                               replace q604 := eq_true q604
                               have p605 : 0 ≤ (x12_3 : Int) := of_decide_eq_true (by first | (with_reducible assumption) | assumption)
                               have q605 : x12_3 < (t589.length : Int) := of_decide_eq_true (by first | (with_reducible assumption) | assumption)
                               obtain ⟨ad605, e605, hx605_0⟩ := Kd.at_int (Kd.R_reads' HO_6.out).2.2 x12_3 p605 q605
                               obtain rfl : ad595 = ad605 := (by injection e605)
                               replace p605 := eq_true p605
                               replace q605 := eq_true q605
                               have p606 : 0 ≤ ((ji38) : Int) := of_decide_eq_true (by first | (with_reducible assumption) | assumption)
                               have q606 : (ji38) < (t589.length : Int) := of_decide_eq_true (by first | (with_reducible assumption) | assumption)
                               obtain ⟨ad606, e606, hx606_0⟩ := Kd.at_int (Kd.R_reads' HO_6.out).2.2 (ji38) p606 q606
                               obtain rfl : ad595 = ad606 := (by injection e606)
                               replace p606 := eq_true p606
                               replace q606 := eq_true q606
                               go_wp2
                               repeat (go_quiet (fail); try go_wp2)
                               go_roundg k3
                               case measure => have := HJ5.out; have := HJ12.out; have := HK3.out; omega
                               case rel => exact ⟨(((wrap64 (x8_12 * (wrap64 ((rd t589 x12_3) - (rd l0 x12_3))))) == 5)), (decide ((rd t589 x12_3) ≥ (rd t589 (ji38)))), (decide ((rd t589 x12_3) ≤ (rd t589 (ji38)))), (wrap64 (x12_3 + 1)), (by first | rfl | (simp; done) | (simp [*]; done) | (simp [wrap64]; done)), (by first | rfl | (simp; done) | (simp only [← hji38] <;> (first | rfl | simp)) | (simp [*]; done)), (by first | rfl | (simp; done) | (simp only [← hji38] <;> (first | rfl | simp)) | (simp [*]; done)), (by first | rfl | (simp; done) | (simp [*]; done) | (simp [wrap64]; done)), H', ⟨by have := HJ5.out; have := HJ12.out; have := HK3.out; omega⟩, ⟨by (with_reducible repeat (first | apply Kd.R_alloc | apply Kd.R_drewN | apply Kd.R_drew)); exact HO_6.out⟩, ⟨by exact qW HB.out⟩⟩
                             · replace c41 := Bool.eq_false_iff.mpr c41
                               subst c41
                               have H1 : (partitalaw23_BeamNear.l0 k3 l0 t588 t589 x8_12 ((wrap64 (x8_12 * (wrap64 ((rd t589 x12_3) - (rd l0 x12_3))))) == 5) (decide ((rd t589 x12_3) ≥ (rd t589 (ji38)))) false (wrap64 (x12_3 + 1))) = some r := by rw [if_neg (show ¬ (false = true) by decide)] at H; exact H
                               clear H
                               have H := H1
                               clear H1
                               have H' := Aside0.mk H
                               clear H
                               obtain ⟨Ao43, co43, eo43⟩ := Kd.R_slice HO_6.out
                               subst eo43
                               have p595 : 0 ≤ (x12_3 : Int) := of_decide_eq_true (by first | (with_reducible assumption) | assumption)
                               have q595 : x12_3 < (t589.length : Int) := of_decide_eq_true (by first | (with_reducible assumption) | assumption)
                               obtain ⟨ad595, e595, hx595_0⟩ := Kd.at_int (Kd.R_reads' HO_6.out).2.2 x12_3 p595 q595
                               cases e595
                               replace p595 := eq_true p595
                               replace q595 := eq_true q595
                               have p596 : 0 ≤ (x12_3 : Int) := of_decide_eq_true (by first | (with_reducible assumption) | assumption)
                               have q596 : x12_3 < (l0.length : Int) := of_decide_eq_true (by first | (with_reducible assumption) | assumption)
                               obtain ⟨ad596, e596, hx596_0⟩ := Kd.at_int HR0.out x12_3 p596 q596
                               cases e596
                               replace hx596_0 := (HB.out.cell (World.block_lt_of_cell? w _ hx596_0)).trans hx596_0
                               replace p596 := eq_true p596
                               replace q596 := eq_true q596
                               have p603 : 0 ≤ (x12_3 : Int) := of_decide_eq_true (by first | (with_reducible assumption) | assumption)
                               have q603 : x12_3 < (t589.length : Int) := of_decide_eq_true (by first | (with_reducible assumption) | assumption)
                               obtain ⟨ad603, e603, hx603_0⟩ := Kd.at_int (Kd.R_reads' HO_6.out).2.2 x12_3 p603 q603
                               obtain rfl : ad595 = ad603 := (by injection e603)
                               replace p603 := eq_true p603
                               replace q603 := eq_true q603
                               have p604 : 0 ≤ ((ji38) : Int) := of_decide_eq_true (by first | (with_reducible assumption) | assumption)
                               have q604 : (ji38) < (t589.length : Int) := of_decide_eq_true (by first | (with_reducible assumption) | assumption)
                               obtain ⟨ad604, e604, hx604_0⟩ := Kd.at_int (Kd.R_reads' HO_6.out).2.2 (ji38) p604 q604
                               obtain rfl : ad595 = ad604 := (by injection e604)
                               replace p604 := eq_true p604
                               replace q604 := eq_true q604
                               go_wp2
                               repeat (go_quiet (fail); try go_wp2)
                               go_roundg k3
                               case measure => have := HJ5.out; have := HJ12.out; have := HK3.out; omega
                               case rel => exact ⟨(((wrap64 (x8_12 * (wrap64 ((rd t589 x12_3) - (rd l0 x12_3))))) == 5)), (decide ((rd t589 x12_3) ≥ (rd t589 (ji38)))), (false), (wrap64 (x12_3 + 1)), (by first | rfl | (simp; done) | (simp [*]; done) | (simp [wrap64]; done)), (by first | rfl | (simp; done) | (simp only [← hji38] <;> (first | rfl | simp)) | (simp [*]; done)), (by first | rfl | (simp; done) | (simp [*]; done) | (simp [wrap64]; done)), (by first | rfl | (simp; done) | (simp [*]; done) | (simp [wrap64]; done)), H', ⟨by have := HJ5.out; have := HJ12.out; have := HK3.out; omega⟩, ⟨by (with_reducible repeat (first | apply Kd.R_alloc | apply Kd.R_drewN | apply Kd.R_drew)); exact HO_6.out⟩, ⟨by exact qW HB.out⟩⟩
                           · rw [if_neg c40] at H
                             exact absurd H (by simp)
                         · rw [if_neg c39] at H
                           exact absurd H (by simp)
                       · replace c37 := Bool.eq_false_iff.mpr c37
                         subst c37
                         have H1 : (if x11_3 = true then (if 0 ≤ (wrap64 (x12_3 - 1)) then (if (wrap64 (x12_3 - 1)) < (t589.length : Int) then (partitalaw23_BeamNear.l0 k3 l0 t588 t589 x8_12 ((wrap64 (x8_12 * (wrap64 ((rd t589 x12_3) - (rd l0 x12_3))))) == 5) false (decide ((rd t589 x12_3) ≤ (rd t589 (wrap64 (x12_3 - 1))))) (wrap64 (x12_3 + 1))) else (none)) else (none)) else (partitalaw23_BeamNear.l0 k3 l0 t588 t589 x8_12 ((wrap64 (x8_12 * (wrap64 ((rd t589 x12_3) - (rd l0 x12_3))))) == 5) false false (wrap64 (x12_3 + 1)))) = some r := by rw [if_neg (show ¬ (false = true) by decide)] at H; exact H
                         clear H
                         have H := H1
                         clear H1
                         by_cases c44 : x11_3 = true
                         · subst c44
                           have H1 : (if 0 ≤ (wrap64 (x12_3 - 1)) then (if (wrap64 (x12_3 - 1)) < (t589.length : Int) then (partitalaw23_BeamNear.l0 k3 l0 t588 t589 x8_12 ((wrap64 (x8_12 * (wrap64 ((rd t589 x12_3) - (rd l0 x12_3))))) == 5) false (decide ((rd t589 x12_3) ≤ (rd t589 (wrap64 (x12_3 - 1))))) (wrap64 (x12_3 + 1))) else (none)) else (none)) = some r := by rw [if_pos rfl] at H; exact H
                           clear H
                           have H := H1
                           clear H1
                           obtain ⟨ji45, hji45⟩ : ∃ j_ : Int, (wrap64 (x12_3 - 1)) = j_ := ⟨_, rfl⟩
                           replace H : (if 0 ≤ (ji45) then (if (ji45) < (t589.length : Int) then (partitalaw23_BeamNear.l0 k3 l0 t588 t589 x8_12 ((wrap64 (x8_12 * (wrap64 ((rd t589 x12_3) - (rd l0 x12_3))))) == 5) false (decide ((rd t589 x12_3) ≤ (rd t589 (ji45)))) (wrap64 (x12_3 + 1))) else (none)) else (none)) = some r := by first | (rw [hji45] at H; exact H) | (simp only [hji45] at H ⊢; exact H)
                           have hji45w : (IntKind.i64.wrap (x12_3 - 1)) = ji45 := (i64_w _).trans hji45
                           by_cases c46 : 0 ≤ (ji45)
                           · rw [if_pos c46] at H
                             have c46b0 : decide (0 ≤ (ji45)) = true := decide_eq_true c46
                             clear c46
                             by_cases c47 : (ji45) < (t589.length : Int)
                             · rw [if_pos c47] at H
                               have c47b0 : decide ((ji45) < (t589.length : Int)) = true := decide_eq_true c47
                               clear c47
                               have H' := Aside0.mk H
                               clear H
                               obtain ⟨Ao48, co48, eo48⟩ := Kd.R_slice HO_6.out
                               subst eo48
                               have p595 : 0 ≤ (x12_3 : Int) := of_decide_eq_true (by first | (with_reducible assumption) | assumption)
                               have q595 : x12_3 < (t589.length : Int) := of_decide_eq_true (by first | (with_reducible assumption) | assumption)
                               obtain ⟨ad595, e595, hx595_0⟩ := Kd.at_int (Kd.R_reads' HO_6.out).2.2 x12_3 p595 q595
                               cases e595
                               replace p595 := eq_true p595
                               replace q595 := eq_true q595
                               have p596 : 0 ≤ (x12_3 : Int) := of_decide_eq_true (by first | (with_reducible assumption) | assumption)
                               have q596 : x12_3 < (l0.length : Int) := of_decide_eq_true (by first | (with_reducible assumption) | assumption)
                               obtain ⟨ad596, e596, hx596_0⟩ := Kd.at_int HR0.out x12_3 p596 q596
                               cases e596
                               replace hx596_0 := (HB.out.cell (World.block_lt_of_cell? w _ hx596_0)).trans hx596_0
                               replace p596 := eq_true p596
                               replace q596 := eq_true q596
                               have p607 : 0 ≤ (x12_3 : Int) := of_decide_eq_true (by first | (with_reducible assumption) | assumption)
                               have q607 : x12_3 < (t589.length : Int) := of_decide_eq_true (by first | (with_reducible assumption) | assumption)
                               obtain ⟨ad607, e607, hx607_0⟩ := Kd.at_int (Kd.R_reads' HO_6.out).2.2 x12_3 p607 q607
                               obtain rfl : ad595 = ad607 := (by injection e607)
                               replace p607 := eq_true p607
                               replace q607 := eq_true q607
                               have p608 : 0 ≤ ((ji45) : Int) := of_decide_eq_true (by first | (with_reducible assumption) | assumption)
                               have q608 : (ji45) < (t589.length : Int) := of_decide_eq_true (by first | (with_reducible assumption) | assumption)
                               obtain ⟨ad608, e608, hx608_0⟩ := Kd.at_int (Kd.R_reads' HO_6.out).2.2 (ji45) p608 q608
                               obtain rfl : ad595 = ad608 := (by injection e608)
                               replace p608 := eq_true p608
                               replace q608 := eq_true q608
                               go_wp2
                               repeat (go_quiet (fail); try go_wp2)
                               go_roundg k3
                               case measure => have := HJ5.out; have := HJ12.out; have := HK3.out; omega
                               case rel => exact ⟨(((wrap64 (x8_12 * (wrap64 ((rd t589 x12_3) - (rd l0 x12_3))))) == 5)), (false), (decide ((rd t589 x12_3) ≤ (rd t589 (ji45)))), (wrap64 (x12_3 + 1)), (by first | rfl | (simp; done) | (simp [*]; done) | (simp [wrap64]; done)), (by first | rfl | (simp; done) | (simp [*]; done) | (simp [wrap64]; done)), (by first | rfl | (simp; done) | (simp only [← hji45] <;> (first | rfl | simp)) | (simp [*]; done)), (by first | rfl | (simp; done) | (simp [*]; done) | (simp [wrap64]; done)), H', ⟨by have := HJ5.out; have := HJ12.out; have := HK3.out; omega⟩, ⟨by (with_reducible repeat (first | apply Kd.R_alloc | apply Kd.R_drewN | apply Kd.R_drew)); exact HO_6.out⟩, ⟨by exact qW HB.out⟩⟩
                             · rw [if_neg c47] at H
                               exact absurd H (by simp)
                           · rw [if_neg c46] at H
                             exact absurd H (by simp)
                         · replace c44 := Bool.eq_false_iff.mpr c44
                           subst c44
                           have H1 : (partitalaw23_BeamNear.l0 k3 l0 t588 t589 x8_12 ((wrap64 (x8_12 * (wrap64 ((rd t589 x12_3) - (rd l0 x12_3))))) == 5) false false (wrap64 (x12_3 + 1))) = some r := by rw [if_neg (show ¬ (false = true) by decide)] at H; exact H
                           clear H
                           have H := H1
                           clear H1
                           have H' := Aside0.mk H
                           clear H
                           obtain ⟨Ao49, co49, eo49⟩ := Kd.R_slice HO_6.out
                           subst eo49
                           have p595 : 0 ≤ (x12_3 : Int) := of_decide_eq_true (by first | (with_reducible assumption) | assumption)
                           have q595 : x12_3 < (t589.length : Int) := of_decide_eq_true (by first | (with_reducible assumption) | assumption)
                           obtain ⟨ad595, e595, hx595_0⟩ := Kd.at_int (Kd.R_reads' HO_6.out).2.2 x12_3 p595 q595
                           cases e595
                           replace p595 := eq_true p595
                           replace q595 := eq_true q595
                           have p596 : 0 ≤ (x12_3 : Int) := of_decide_eq_true (by first | (with_reducible assumption) | assumption)
                           have q596 : x12_3 < (l0.length : Int) := of_decide_eq_true (by first | (with_reducible assumption) | assumption)
                           obtain ⟨ad596, e596, hx596_0⟩ := Kd.at_int HR0.out x12_3 p596 q596
                           cases e596
                           replace hx596_0 := (HB.out.cell (World.block_lt_of_cell? w _ hx596_0)).trans hx596_0
                           replace p596 := eq_true p596
                           replace q596 := eq_true q596
                           go_wp2
                           repeat (go_quiet (fail); try go_wp2)
                           go_roundg k3
                           case measure => have := HJ5.out; have := HJ12.out; have := HK3.out; omega
                           case rel => exact ⟨(((wrap64 (x8_12 * (wrap64 ((rd t589 x12_3) - (rd l0 x12_3))))) == 5)), (false), (false), (wrap64 (x12_3 + 1)), (by first | rfl | (simp; done) | (simp [*]; done) | (simp [wrap64]; done)), (by first | rfl | (simp; done) | (simp [*]; done) | (simp [wrap64]; done)), (by first | rfl | (simp; done) | (simp [*]; done) | (simp [wrap64]; done)), (by first | rfl | (simp; done) | (simp [*]; done) | (simp [wrap64]; done)), H', ⟨by have := HJ5.out; have := HJ12.out; have := HK3.out; omega⟩, ⟨by (with_reducible repeat (first | apply Kd.R_alloc | apply Kd.R_drewN | apply Kd.R_drew)); exact HO_6.out⟩, ⟨by exact qW HB.out⟩⟩
                     · rw [if_neg c36] at H
                       have c36b0 : decide (0 < x12_3) = false := decide_eq_false c36
                       clear c36
                       have H' := Aside0.mk H
                       clear H
                       obtain ⟨Ao50, co50, eo50⟩ := Kd.R_slice HO_6.out
                       subst eo50
                       have p595 : 0 ≤ (x12_3 : Int) := of_decide_eq_true (by first | (with_reducible assumption) | assumption)
                       have q595 : x12_3 < (t589.length : Int) := of_decide_eq_true (by first | (with_reducible assumption) | assumption)
                       obtain ⟨ad595, e595, hx595_0⟩ := Kd.at_int (Kd.R_reads' HO_6.out).2.2 x12_3 p595 q595
                       cases e595
                       replace p595 := eq_true p595
                       replace q595 := eq_true q595
                       have p596 : 0 ≤ (x12_3 : Int) := of_decide_eq_true (by first | (with_reducible assumption) | assumption)
                       have q596 : x12_3 < (l0.length : Int) := of_decide_eq_true (by first | (with_reducible assumption) | assumption)
                       obtain ⟨ad596, e596, hx596_0⟩ := Kd.at_int HR0.out x12_3 p596 q596
                       cases e596
                       replace hx596_0 := (HB.out.cell (World.block_lt_of_cell? w _ hx596_0)).trans hx596_0
                       replace p596 := eq_true p596
                       replace q596 := eq_true q596
                       go_wp2
                       repeat (go_quiet (fail); try go_wp2)
                       go_roundg k3
                       case measure => have := HJ5.out; have := HJ12.out; have := HK3.out; omega
                       case rel => exact ⟨(((wrap64 (x8_12 * (wrap64 ((rd t589 x12_3) - (rd l0 x12_3))))) == 5)), (x10_3), (x11_3), (wrap64 (x12_3 + 1)), (by first | rfl | (simp; done) | (simp [*]; done) | (simp [wrap64]; done)), (by first | rfl | (simp; done) | (simp [*]; done) | (simp [wrap64]; done)), (by first | rfl | (simp; done) | (simp [*]; done) | (simp [wrap64]; done)), (by first | rfl | (simp; done) | (simp [*]; done) | (simp [wrap64]; done)), H', ⟨by have := HJ5.out; have := HJ12.out; have := HK3.out; omega⟩, ⟨by (with_reducible repeat (first | apply Kd.R_alloc | apply Kd.R_drewN | apply Kd.R_drew)); exact HO_6.out⟩, ⟨by exact qW HB.out⟩⟩
               · rw [if_neg c17] at H
                 exact absurd H (by simp)
             · rw [if_neg c16] at H
               exact absurd H (by simp)
           · rw [if_neg c15] at H
             have c15b0 : decide (x12_3 < (t589.length : Int)) = false := decide_eq_false c15
             clear c15
             obtain ⟨ji51, hji51⟩ : ∃ j_ : Int, (wrap64 ((t589.length : Int) - 1)) = j_ := ⟨_, rfl⟩
             replace H : (if 0 ≤ (ji51) then (if (ji51) < (t589.length : Int) then (if 0 < (t589.length : Int) then (if t588 = true then (if x9_3 = true then (if x10_3 = true then (if (wrap64 ((rd t589 (ji51)) - (rd t589 0))) ≥ (-2) then (some (decide ((wrap64 ((rd t589 (ji51)) - (rd t589 0))) ≤ 2))) else (some false)) else (if x11_3 = true then (if (wrap64 ((rd t589 (ji51)) - (rd t589 0))) ≥ (-2) then (some (decide ((wrap64 ((rd t589 (ji51)) - (rd t589 0))) ≤ 2))) else (some false)) else (some false))) else (some false)) else (some false)) else (none)) else (none)) else (none)) = some r := by first | (rw [hji51] at H; exact H) | (simp only [hji51] at H ⊢; exact H)
             have hji51w : (IntKind.i64.wrap ((t589.length : Int) - 1)) = ji51 := (i64_w _).trans hji51
             by_cases c52 : 0 ≤ (ji51)
             · rw [if_pos c52] at H
               have c52b0 : decide (0 ≤ (ji51)) = true := decide_eq_true c52
               clear c52
               by_cases c53 : (ji51) < (t589.length : Int)
               · rw [if_pos c53] at H
                 have c53b0 : decide ((ji51) < (t589.length : Int)) = true := decide_eq_true c53
                 clear c53
                 by_cases c54 : 0 < (t589.length : Int)
                 · rw [if_pos c54] at H
                   have c54b0 : decide (0 < (t589.length : Int)) = true := decide_eq_true c54
                   have c54b1 : decide (0 < t589.length) = true := decide_eq_true (by omega)
                   clear c54
                   by_cases c55 : t588 = true
                   · subst c55
                     have H1 : (if x9_3 = true then (if x10_3 = true then (if (wrap64 ((rd t589 (ji51)) - (rd t589 0))) ≥ (-2) then (some (decide ((wrap64 ((rd t589 (ji51)) - (rd t589 0))) ≤ 2))) else (some false)) else (if x11_3 = true then (if (wrap64 ((rd t589 (ji51)) - (rd t589 0))) ≥ (-2) then (some (decide ((wrap64 ((rd t589 (ji51)) - (rd t589 0))) ≤ 2))) else (some false)) else (some false))) else (some false)) = some r := by rw [if_pos rfl] at H; exact H
                     clear H
                     have H := H1
                     clear H1
                     by_cases c56 : x9_3 = true
                     · subst c56
                       have H1 : (if x10_3 = true then (if (wrap64 ((rd t589 (ji51)) - (rd t589 0))) ≥ (-2) then (some (decide ((wrap64 ((rd t589 (ji51)) - (rd t589 0))) ≤ 2))) else (some false)) else (if x11_3 = true then (if (wrap64 ((rd t589 (ji51)) - (rd t589 0))) ≥ (-2) then (some (decide ((wrap64 ((rd t589 (ji51)) - (rd t589 0))) ≤ 2))) else (some false)) else (some false))) = some r := by rw [if_pos rfl] at H; exact H
                       clear H
                       have H := H1
                       clear H1
                       by_cases c57 : x10_3 = true
                       · subst c57
                         have H1 : (if (wrap64 ((rd t589 (ji51)) - (rd t589 0))) ≥ (-2) then (some (decide ((wrap64 ((rd t589 (ji51)) - (rd t589 0))) ≤ 2))) else (some false)) = some r := by rw [if_pos rfl] at H; exact H
                         clear H
                         have H := H1
                         clear H1
                         by_cases c58 : (wrap64 ((rd t589 (ji51)) - (rd t589 0))) ≥ (-2)
                         · rw [if_pos c58] at H
                           have c58b0 : decide ((-2) ≤ (wrap64 ((rd t589 (ji51)) - (rd t589 0)))) = true := decide_eq_true c58
                           clear c58
                           obtain rfl := Option.some.inj H
                           obtain ⟨Ao59, co59, eo59⟩ := Kd.R_slice HO_6.out
                           subst eo59
                           have p593 : 0 ≤ ((ji51) : Int) := of_decide_eq_true (by first | (with_reducible assumption) | assumption)
                           have q593 : (ji51) < (t589.length : Int) := of_decide_eq_true (by first | (with_reducible assumption) | assumption)
                           obtain ⟨ad593, e593, hx593_0⟩ := Kd.at_int (Kd.R_reads' HO_6.out).2.2 (ji51) p593 q593
                           cases e593
                           replace p593 := eq_true p593
                           replace q593 := eq_true q593
                           have p594 : 0 ≤ (0 : Int) := (by omega)
                           have q594 : 0 < (t589.length : Int) := of_decide_eq_true (by first | (with_reducible assumption) | assumption)
                           obtain ⟨ad594, e594, hx594_0⟩ := Kd.at_int (Kd.R_reads' HO_6.out).2.2 0 p594 q594
                           obtain rfl : ad593 = ad594 := (by injection e594)
                           have qi594 : (0 < t589.length) = True := eq_true (by omega)
                           (try rw [show ((0 : Int)).toNat = 0 from rfl] at hx594_0)
                           (try rw [Addr.add_zero'] at hx594_0)
                           replace p594 := eq_true p594
                           replace q594 := eq_true q594
                           go_wp2
                           repeat (go_quiet (fail); try go_wp2)
                           go_ret
                           exact ⟨by first | rfl | (simp [errW_none, errW_some] <;> rfl) | (simp only [← hji51]; first | rfl | (simp [errW_none, errW_some] <;> rfl)) | (simp [*, errW_none, errW_some] <;> rfl), by exact qW HB.out⟩
                         · rw [if_neg c58] at H
                           have c58b0 : decide ((-2) ≤ (wrap64 ((rd t589 (ji51)) - (rd t589 0)))) = false := decide_eq_false c58
                           clear c58
                           obtain rfl := Option.some.inj H
                           obtain ⟨Ao60, co60, eo60⟩ := Kd.R_slice HO_6.out
                           subst eo60
                           have p593 : 0 ≤ ((ji51) : Int) := of_decide_eq_true (by first | (with_reducible assumption) | assumption)
                           have q593 : (ji51) < (t589.length : Int) := of_decide_eq_true (by first | (with_reducible assumption) | assumption)
                           obtain ⟨ad593, e593, hx593_0⟩ := Kd.at_int (Kd.R_reads' HO_6.out).2.2 (ji51) p593 q593
                           cases e593
                           replace p593 := eq_true p593
                           replace q593 := eq_true q593
                           have p594 : 0 ≤ (0 : Int) := (by omega)
                           have q594 : 0 < (t589.length : Int) := of_decide_eq_true (by first | (with_reducible assumption) | assumption)
                           obtain ⟨ad594, e594, hx594_0⟩ := Kd.at_int (Kd.R_reads' HO_6.out).2.2 0 p594 q594
                           obtain rfl : ad593 = ad594 := (by injection e594)
                           have qi594 : (0 < t589.length) = True := eq_true (by omega)
                           (try rw [show ((0 : Int)).toNat = 0 from rfl] at hx594_0)
                           (try rw [Addr.add_zero'] at hx594_0)
                           replace p594 := eq_true p594
                           replace q594 := eq_true q594
                           go_wp2
                           repeat (go_quiet (fail); try go_wp2)
                           go_ret
                           exact ⟨by first | rfl | (simp [errW_none, errW_some] <;> rfl) | (simp only [← hji51]; first | rfl | (simp [errW_none, errW_some] <;> rfl)) | (simp [*, errW_none, errW_some] <;> rfl), by exact qW HB.out⟩
                       · replace c57 := Bool.eq_false_iff.mpr c57
                         subst c57
                         have H1 : (if x11_3 = true then (if (wrap64 ((rd t589 (ji51)) - (rd t589 0))) ≥ (-2) then (some (decide ((wrap64 ((rd t589 (ji51)) - (rd t589 0))) ≤ 2))) else (some false)) else (some false)) = some r := by rw [if_neg (show ¬ (false = true) by decide)] at H; exact H
                         clear H
                         have H := H1
                         clear H1
                         by_cases c61 : x11_3 = true
                         · subst c61
                           have H1 : (if (wrap64 ((rd t589 (ji51)) - (rd t589 0))) ≥ (-2) then (some (decide ((wrap64 ((rd t589 (ji51)) - (rd t589 0))) ≤ 2))) else (some false)) = some r := by rw [if_pos rfl] at H; exact H
                           clear H
                           have H := H1
                           clear H1
                           by_cases c62 : (wrap64 ((rd t589 (ji51)) - (rd t589 0))) ≥ (-2)
                           · rw [if_pos c62] at H
                             have c62b0 : decide ((-2) ≤ (wrap64 ((rd t589 (ji51)) - (rd t589 0)))) = true := decide_eq_true c62
                             clear c62
                             obtain rfl := Option.some.inj H
                             obtain ⟨Ao63, co63, eo63⟩ := Kd.R_slice HO_6.out
                             subst eo63
                             have p593 : 0 ≤ ((ji51) : Int) := of_decide_eq_true (by first | (with_reducible assumption) | assumption)
                             have q593 : (ji51) < (t589.length : Int) := of_decide_eq_true (by first | (with_reducible assumption) | assumption)
                             obtain ⟨ad593, e593, hx593_0⟩ := Kd.at_int (Kd.R_reads' HO_6.out).2.2 (ji51) p593 q593
                             cases e593
                             replace p593 := eq_true p593
                             replace q593 := eq_true q593
                             have p594 : 0 ≤ (0 : Int) := (by omega)
                             have q594 : 0 < (t589.length : Int) := of_decide_eq_true (by first | (with_reducible assumption) | assumption)
                             obtain ⟨ad594, e594, hx594_0⟩ := Kd.at_int (Kd.R_reads' HO_6.out).2.2 0 p594 q594
                             obtain rfl : ad593 = ad594 := (by injection e594)
                             have qi594 : (0 < t589.length) = True := eq_true (by omega)
                             (try rw [show ((0 : Int)).toNat = 0 from rfl] at hx594_0)
                             (try rw [Addr.add_zero'] at hx594_0)
                             replace p594 := eq_true p594
                             replace q594 := eq_true q594
                             go_wp2
                             repeat (go_quiet (fail); try go_wp2)
                             go_ret
                             exact ⟨by first | rfl | (simp [errW_none, errW_some] <;> rfl) | (simp only [← hji51]; first | rfl | (simp [errW_none, errW_some] <;> rfl)) | (simp [*, errW_none, errW_some] <;> rfl), by exact qW HB.out⟩
                           · rw [if_neg c62] at H
                             have c62b0 : decide ((-2) ≤ (wrap64 ((rd t589 (ji51)) - (rd t589 0)))) = false := decide_eq_false c62
                             clear c62
                             obtain rfl := Option.some.inj H
                             obtain ⟨Ao64, co64, eo64⟩ := Kd.R_slice HO_6.out
                             subst eo64
                             have p593 : 0 ≤ ((ji51) : Int) := of_decide_eq_true (by first | (with_reducible assumption) | assumption)
                             have q593 : (ji51) < (t589.length : Int) := of_decide_eq_true (by first | (with_reducible assumption) | assumption)
                             obtain ⟨ad593, e593, hx593_0⟩ := Kd.at_int (Kd.R_reads' HO_6.out).2.2 (ji51) p593 q593
                             cases e593
                             replace p593 := eq_true p593
                             replace q593 := eq_true q593
                             have p594 : 0 ≤ (0 : Int) := (by omega)
                             have q594 : 0 < (t589.length : Int) := of_decide_eq_true (by first | (with_reducible assumption) | assumption)
                             obtain ⟨ad594, e594, hx594_0⟩ := Kd.at_int (Kd.R_reads' HO_6.out).2.2 0 p594 q594
                             obtain rfl : ad593 = ad594 := (by injection e594)
                             have qi594 : (0 < t589.length) = True := eq_true (by omega)
                             (try rw [show ((0 : Int)).toNat = 0 from rfl] at hx594_0)
                             (try rw [Addr.add_zero'] at hx594_0)
                             replace p594 := eq_true p594
                             replace q594 := eq_true q594
                             go_wp2
                             repeat (go_quiet (fail); try go_wp2)
                             go_ret
                             exact ⟨by first | rfl | (simp [errW_none, errW_some] <;> rfl) | (simp only [← hji51]; first | rfl | (simp [errW_none, errW_some] <;> rfl)) | (simp [*, errW_none, errW_some] <;> rfl), by exact qW HB.out⟩
                         · replace c61 := Bool.eq_false_iff.mpr c61
                           subst c61
                           have H1 : (some false) = some r := by rw [if_neg (show ¬ (false = true) by decide)] at H; exact H
                           clear H
                           have H := H1
                           clear H1
                           obtain rfl := Option.some.inj H
                           obtain ⟨Ao65, co65, eo65⟩ := Kd.R_slice HO_6.out
                           subst eo65
                           have p593 : 0 ≤ ((ji51) : Int) := of_decide_eq_true (by first | (with_reducible assumption) | assumption)
                           have q593 : (ji51) < (t589.length : Int) := of_decide_eq_true (by first | (with_reducible assumption) | assumption)
                           obtain ⟨ad593, e593, hx593_0⟩ := Kd.at_int (Kd.R_reads' HO_6.out).2.2 (ji51) p593 q593
                           cases e593
                           replace p593 := eq_true p593
                           replace q593 := eq_true q593
                           have p594 : 0 ≤ (0 : Int) := (by omega)
                           have q594 : 0 < (t589.length : Int) := of_decide_eq_true (by first | (with_reducible assumption) | assumption)
                           obtain ⟨ad594, e594, hx594_0⟩ := Kd.at_int (Kd.R_reads' HO_6.out).2.2 0 p594 q594
                           obtain rfl : ad593 = ad594 := (by injection e594)
                           have qi594 : (0 < t589.length) = True := eq_true (by omega)
                           (try rw [show ((0 : Int)).toNat = 0 from rfl] at hx594_0)
                           (try rw [Addr.add_zero'] at hx594_0)
                           replace p594 := eq_true p594
                           replace q594 := eq_true q594
                           go_wp2
                           repeat (go_quiet (fail); try go_wp2)
                           go_ret
                           exact ⟨by first | rfl | (simp [errW_none, errW_some] <;> rfl) | (simp only [← hji51]; first | rfl | (simp [errW_none, errW_some] <;> rfl)) | (simp [*, errW_none, errW_some] <;> rfl), by exact qW HB.out⟩
                     · replace c56 := Bool.eq_false_iff.mpr c56
                       subst c56
                       have H1 : (some false) = some r := by rw [if_neg (show ¬ (false = true) by decide)] at H; exact H
                       clear H
                       have H := H1
                       clear H1
                       obtain rfl := Option.some.inj H
                       obtain ⟨Ao66, co66, eo66⟩ := Kd.R_slice HO_6.out
                       subst eo66
                       have p593 : 0 ≤ ((ji51) : Int) := of_decide_eq_true (by first | (with_reducible assumption) | assumption)
                       have q593 : (ji51) < (t589.length : Int) := of_decide_eq_true (by first | (with_reducible assumption) | assumption)
                       obtain ⟨ad593, e593, hx593_0⟩ := Kd.at_int (Kd.R_reads' HO_6.out).2.2 (ji51) p593 q593
                       cases e593
                       replace p593 := eq_true p593
                       replace q593 := eq_true q593
                       have p594 : 0 ≤ (0 : Int) := (by omega)
                       have q594 : 0 < (t589.length : Int) := of_decide_eq_true (by first | (with_reducible assumption) | assumption)
                       obtain ⟨ad594, e594, hx594_0⟩ := Kd.at_int (Kd.R_reads' HO_6.out).2.2 0 p594 q594
                       obtain rfl : ad593 = ad594 := (by injection e594)
                       have qi594 : (0 < t589.length) = True := eq_true (by omega)
                       (try rw [show ((0 : Int)).toNat = 0 from rfl] at hx594_0)
                       (try rw [Addr.add_zero'] at hx594_0)
                       replace p594 := eq_true p594
                       replace q594 := eq_true q594
                       go_wp2
                       repeat (go_quiet (fail); try go_wp2)
                       go_ret
                       exact ⟨by first | rfl | (simp [errW_none, errW_some] <;> rfl) | (simp only [← hji51]; first | rfl | (simp [errW_none, errW_some] <;> rfl)) | (simp [*, errW_none, errW_some] <;> rfl), by exact qW HB.out⟩
                   · replace c55 := Bool.eq_false_iff.mpr c55
                     subst c55
                     have H1 : (some false) = some r := by rw [if_neg (show ¬ (false = true) by decide)] at H; exact H
                     clear H
                     have H := H1
                     clear H1
                     obtain rfl := Option.some.inj H
                     obtain ⟨Ao67, co67, eo67⟩ := Kd.R_slice HO_6.out
                     subst eo67
                     have p593 : 0 ≤ ((ji51) : Int) := of_decide_eq_true (by first | (with_reducible assumption) | assumption)
                     have q593 : (ji51) < (t589.length : Int) := of_decide_eq_true (by first | (with_reducible assumption) | assumption)
                     obtain ⟨ad593, e593, hx593_0⟩ := Kd.at_int (Kd.R_reads' HO_6.out).2.2 (ji51) p593 q593
                     cases e593
                     replace p593 := eq_true p593
                     replace q593 := eq_true q593
                     have p594 : 0 ≤ (0 : Int) := (by omega)
                     have q594 : 0 < (t589.length : Int) := of_decide_eq_true (by first | (with_reducible assumption) | assumption)
                     obtain ⟨ad594, e594, hx594_0⟩ := Kd.at_int (Kd.R_reads' HO_6.out).2.2 0 p594 q594
                     obtain rfl : ad593 = ad594 := (by injection e594)
                     have qi594 : (0 < t589.length) = True := eq_true (by omega)
                     (try rw [show ((0 : Int)).toNat = 0 from rfl] at hx594_0)
                     (try rw [Addr.add_zero'] at hx594_0)
                     replace p594 := eq_true p594
                     replace q594 := eq_true q594
                     go_wp2
                     repeat (go_quiet (fail); try go_wp2)
                     go_ret
                     exact ⟨by first | rfl | (simp [errW_none, errW_some] <;> rfl) | (simp only [← hji51]; first | rfl | (simp [errW_none, errW_some] <;> rfl)) | (simp [*, errW_none, errW_some] <;> rfl), by exact qW HB.out⟩
                 · rw [if_neg c54] at H
                   exact absurd H (by simp)
               · rw [if_neg c53] at H
                 exact absurd H (by simp)
             · rw [if_neg c52] at H
               exact absurd H (by simp)
 · rw [if_neg c5] at H
   have c5b0 : (t590 == 0) = false := beq_eq_false_iff_ne.mpr c5
   have c5b1 : (t590 != 0) = true := bne_iff_ne.mpr c5
   by_cases c68 : t588 = true
   · subst c68
     have H1 : (some ((t589.length : Int) == 0)) = some r := by rw [if_pos rfl] at H; exact H
     clear H
     have H := H1
     clear H1
     obtain rfl := Option.some.inj H
     go_enter Tryz.func10, Tryz.ntmps10
     go_wp2_with (first | (go_at_call 11; (with_reducible refine (partitalaw23_shown.calls k  true _ A3.out).mono ?_); rintro e w69 ⟨rfl, hb⟩; replace HB := Aside0.mk (below_step (qW HB.out) hb); (try clear hb); (try clear hb2); (try clear hk); (try clear hi)) | (go_at_call 12; (with_reducible refine (beam_Slope.calls k _ _ l0 a1 t589 t590 _ ?side1 ?side2 A4.out).mono ?_); (case side1 => repeat (first | exact (Kd.C_below HR0.out HB.out) | (with_reducible refine Kd.C_alloc ?_ _) | (with_reducible refine Kd.C_drewN ?_ _) | (with_reducible refine Kd.C_drew ?_))); (case side2 => exact HC0.out); rintro e w70 ⟨v591, rfl, ho0, hb⟩; have HO592 := Aside0.mk (Kd.R_lower ho0 (below_size (qW HB.out))); replace HB := Aside0.mk (below_step (qW HB.out) hb); (try clear hb); (try clear hb2); (try clear hk); (try clear hi); (try clear ho0); obtain ⟨Ao71, co71, eo71⟩ := Kd.R_slice HO592.out; subst eo71))
     repeat (go_quiet (first | (go_at_call 11; (with_reducible refine (partitalaw23_shown.calls k  true _ A3.out).mono ?_); rintro e w69 ⟨rfl, hb⟩; replace HB := Aside0.mk (below_step (qW HB.out) hb); (try clear hb); (try clear hb2); (try clear hk); (try clear hi)) | (go_at_call 12; (with_reducible refine (beam_Slope.calls k _ _ l0 a1 t589 t590 _ ?side1 ?side2 A4.out).mono ?_); (case side1 => repeat (first | exact (Kd.C_below HR0.out HB.out) | (with_reducible refine Kd.C_alloc ?_ _) | (with_reducible refine Kd.C_drewN ?_ _) | (with_reducible refine Kd.C_drew ?_))); (case side2 => exact HC0.out); rintro e w70 ⟨v591, rfl, ho0, hb⟩; have HO592 := Aside0.mk (Kd.R_lower ho0 (below_size (qW HB.out))); replace HB := Aside0.mk (below_step (qW HB.out) hb); (try clear hb); (try clear hb2); (try clear hk); (try clear hi); (try clear ho0); obtain ⟨Ao71, co71, eo71⟩ := Kd.R_slice HO592.out; subst eo71)); try go_wp2_with (first | (go_at_call 11; (with_reducible refine (partitalaw23_shown.calls k  true _ A3.out).mono ?_); rintro e w69 ⟨rfl, hb⟩; replace HB := Aside0.mk (below_step (qW HB.out) hb); (try clear hb); (try clear hb2); (try clear hk); (try clear hi)) | (go_at_call 12; (with_reducible refine (beam_Slope.calls k _ _ l0 a1 t589 t590 _ ?side1 ?side2 A4.out).mono ?_); (case side1 => repeat (first | exact (Kd.C_below HR0.out HB.out) | (with_reducible refine Kd.C_alloc ?_ _) | (with_reducible refine Kd.C_drewN ?_ _) | (with_reducible refine Kd.C_drew ?_))); (case side2 => exact HC0.out); rintro e w70 ⟨v591, rfl, ho0, hb⟩; have HO592 := Aside0.mk (Kd.R_lower ho0 (below_size (qW HB.out))); replace HB := Aside0.mk (below_step (qW HB.out) hb); (try clear hb); (try clear hb2); (try clear hk); (try clear hi); (try clear ho0); obtain ⟨Ao71, co71, eo71⟩ := Kd.R_slice HO592.out; subst eo71)))
     go_ret
     exact ⟨by first | rfl | (simp [errW_none, errW_some] <;> rfl) | (simp [*, errW_none, errW_some] <;> rfl), by exact qW HB.out⟩
   · replace c68 := Bool.eq_false_iff.mpr c68
     subst c68
     have H1 : (some false) = some r := by rw [if_neg (show ¬ (false = true) by decide)] at H; exact H
     clear H
     have H := H1
     clear H1
     obtain rfl := Option.some.inj H
     go_enter Tryz.func10, Tryz.ntmps10
     go_wp2_with (first | (go_at_call 11; (with_reducible refine (partitalaw23_shown.calls k  false _ A3.out).mono ?_); rintro e w72 ⟨rfl, hb⟩; replace HB := Aside0.mk (below_step (qW HB.out) hb); (try clear hb); (try clear hb2); (try clear hk); (try clear hi)) | (go_at_call 12; (with_reducible refine (beam_Slope.calls k _ _ l0 a1 t589 t590 _ ?side1 ?side2 A4.out).mono ?_); (case side1 => repeat (first | exact (Kd.C_below HR0.out HB.out) | (with_reducible refine Kd.C_alloc ?_ _) | (with_reducible refine Kd.C_drewN ?_ _) | (with_reducible refine Kd.C_drew ?_))); (case side2 => exact HC0.out); rintro e w73 ⟨v591, rfl, ho0, hb⟩; have HO592 := Aside0.mk (Kd.R_lower ho0 (below_size (qW HB.out))); replace HB := Aside0.mk (below_step (qW HB.out) hb); (try clear hb); (try clear hb2); (try clear hk); (try clear hi); (try clear ho0)))
     repeat (go_quiet (first | (go_at_call 11; (with_reducible refine (partitalaw23_shown.calls k  false _ A3.out).mono ?_); rintro e w72 ⟨rfl, hb⟩; replace HB := Aside0.mk (below_step (qW HB.out) hb); (try clear hb); (try clear hb2); (try clear hk); (try clear hi)) | (go_at_call 12; (with_reducible refine (beam_Slope.calls k _ _ l0 a1 t589 t590 _ ?side1 ?side2 A4.out).mono ?_); (case side1 => repeat (first | exact (Kd.C_below HR0.out HB.out) | (with_reducible refine Kd.C_alloc ?_ _) | (with_reducible refine Kd.C_drewN ?_ _) | (with_reducible refine Kd.C_drew ?_))); (case side2 => exact HC0.out); rintro e w73 ⟨v591, rfl, ho0, hb⟩; have HO592 := Aside0.mk (Kd.R_lower ho0 (below_size (qW HB.out))); replace HB := Aside0.mk (below_step (qW HB.out) hb); (try clear hb); (try clear hb2); (try clear hk); (try clear hi); (try clear ho0))); try go_wp2_with (first | (go_at_call 11; (with_reducible refine (partitalaw23_shown.calls k  false _ A3.out).mono ?_); rintro e w72 ⟨rfl, hb⟩; replace HB := Aside0.mk (below_step (qW HB.out) hb); (try clear hb); (try clear hb2); (try clear hk); (try clear hi)) | (go_at_call 12; (with_reducible refine (beam_Slope.calls k _ _ l0 a1 t589 t590 _ ?side1 ?side2 A4.out).mono ?_); (case side1 => repeat (first | exact (Kd.C_below HR0.out HB.out) | (with_reducible refine Kd.C_alloc ?_ _) | (with_reducible refine Kd.C_drewN ?_ _) | (with_reducible refine Kd.C_drew ?_))); (case side2 => exact HC0.out); rintro e w73 ⟨v591, rfl, ho0, hb⟩; have HO592 := Aside0.mk (Kd.R_lower ho0 (below_size (qW HB.out))); replace HB := Aside0.mk (below_step (qW HB.out) hb); (try clear hb); (try clear hb2); (try clear hk); (try clear hi); (try clear ho0))))
     go_ret
     exact ⟨by first | rfl | (simp [errW_none, errW_some] <;> rfl) | (simp [*, errW_none, errW_some] <;> rfl), by exact qW HB.out⟩

end Go.Proofs.YtocjbedacnlaaaaGreatDoor.Q
