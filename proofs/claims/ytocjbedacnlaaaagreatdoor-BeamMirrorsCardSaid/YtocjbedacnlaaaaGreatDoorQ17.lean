-- Written by a program of this session (myprint.py), function by function.
import Derived.Test.YtocjbedacnlaaaaGreatDoorQ0
import Derived.Test.YtocjbedacnlaaaaGreatDoorQ7
import Derived.Test.YtocjbedacnlaaaaGreatDoorQ16
import Derived.Test.YtocjbedacnlaaaaGreatDoorHandA
import Derived.Test.YtocjbedacnlaaaaGreatDoorSmallMost
namespace Go.Proofs.YtocjbedacnlaaaaGreatDoor.Q
open Go.RowKit Go.Proofs.YtocjbedacnlaaaaGreatDoorW.PrintWords Go.Proofs.YtocjbedacnlaaaaGreatDoorW.PrintLast Go.Proofs.YtocjbedacnlaaaaGreatDoorW.PrintMore
attribute [local go_sem] max2_int min2_int max_two min_two max_three min_three max_four min_four   -- for this text's walks alone
set_option linter.unusedVariables false
set_option linter.unusedSimpArgs false

/-! ### partitalaw23_BeamMirrors: function 3 -/
mutual
def partitalaw23_BeamMirrors.l0 : Nat → List Int → Int → Bool → List Int → List Int → Int → Option (Bool)
 | 0, _, _, _, _, _, _ => none
 | k + 1, x0, x1, x5, x6, x7, x8 => if x8 < (x0.length : Int) then (partitalaw23_BeamMirrors.j1 k x0 x1 x5 x6 x7 x8 (decide (x8 < 65))) else (partitalaw23_BeamMirrors.j1 k x0 x1 x5 x6 x7 x8 false)
def partitalaw23_BeamMirrors.j1 : Nat → List Int → Int → Bool → List Int → List Int → Int → Bool → Option (Bool)
 | 0, _, _, _, _, _, _, _ => none
 | k + 1, x0, x1, x5, x6, x7, x8, x27 => if x27 = true then (if 0 ≤ x8 then (if x8 < (x0.length : Int) then (if (rd x0 x8) < (-100) then (some x5) else (if (rd x0 x8) > 100 then (some x5) else (if x6.length < 17592186044416 then (if x7.length < 17592186044416 then (partitalaw23_BeamMirrors.l0 k x0 x1 x5 (x6 ++ [wrap64 (-(rd x0 x8))]) (x7 ++ [wrap64 ((rd x0 x8) + x1)]) (wrap64 (x8 + 1))) else (none)) else (none)))) else (none)) else (none)) else ((beam_Slope.f k x0 true).bind fun bt271 => ((beam_Slope.f k x6 false).bind fun bt275 => ((beam_Slope.f k x7 true).bind fun bt279 => (if bt271.2 = 0 then (if bt275.2 = 0 then (partitalaw23_BeamMirrors.j2 k x1 x5 bt271.1 bt271.2 bt275.1 bt275.2 bt279.1 bt279.2 ((bt275.1.length : Int) != (bt271.1.length : Int))) else (partitalaw23_BeamMirrors.j2 k x1 x5 bt271.1 bt271.2 bt275.1 bt275.2 bt279.1 bt279.2 true)) else (partitalaw23_BeamMirrors.j2 k x1 x5 bt271.1 bt271.2 bt275.1 bt275.2 bt279.1 bt279.2 true)))))
def partitalaw23_BeamMirrors.j2 : Nat → Int → Bool → List Int → Int → List Int → Int → List Int → Int → Bool → Option (Bool)
 | 0, _, _, _, _, _, _, _, _, _ => none
 | k + 1, x1, x5, x9, x10, x11, x12, x13, x14, x87 => if x87 = true then (if x5 = true then (some (x10 == x12)) else (some false)) else (partitalaw23_BeamMirrors.l1 k x1 x5 x9 x11 x13 x14 0)
def partitalaw23_BeamMirrors.l1 : Nat → Int → Bool → List Int → List Int → List Int → Int → Int → Option (Bool)
 | 0, _, _, _, _, _, _, _ => none
 | k + 1, x1, x5, x9, x11, x13, x14, x15 => if x15 < (x9.length : Int) then (if 0 ≤ x15 then (if x15 < (x11.length : Int) then (if (rd x11 x15) = (wrap64 (-(rd x9 x15))) then (if x14 = 0 then (if (x13.length : Int) = (x9.length : Int) then (if x15 < (x13.length : Int) then (if (rd x13 x15) = (wrap64 ((rd x9 x15) + x1)) then (partitalaw23_BeamMirrors.l1 k x1 x5 x9 x11 x13 x14 (wrap64 (x15 + 1))) else (some false)) else (none)) else (some false)) else (partitalaw23_BeamMirrors.l1 k x1 x5 x9 x11 x13 x14 (wrap64 (x15 + 1)))) else (some false)) else (none)) else (none)) else (some x5)
end
def partitalaw23_BeamMirrors.f (k : Nat) (l0 : List Int) (a1 : Int) : Option (Bool) := (partitalaw23_shown.f k).bind fun t260 => (partitalaw23_BeamMirrors.l0 k l0 (mn (mx a1 (-100)) 100) t260 ([] : List Int) ([] : List Int) 0)
theorem partitalaw23_BeamMirrors.mono_l : ∀ k, (∀ y0 y1 y2 y3 y4 y5, LeO (partitalaw23_BeamMirrors.l0 k y0 y1 y2 y3 y4 y5) (partitalaw23_BeamMirrors.l0 (k + 1) y0 y1 y2 y3 y4 y5)) ∧ (∀ y0 y1 y2 y3 y4 y5 y6, LeO (partitalaw23_BeamMirrors.j1 k y0 y1 y2 y3 y4 y5 y6) (partitalaw23_BeamMirrors.j1 (k + 1) y0 y1 y2 y3 y4 y5 y6)) ∧ (∀ y0 y1 y2 y3 y4 y5 y6 y7 y8, LeO (partitalaw23_BeamMirrors.j2 k y0 y1 y2 y3 y4 y5 y6 y7 y8) (partitalaw23_BeamMirrors.j2 (k + 1) y0 y1 y2 y3 y4 y5 y6 y7 y8)) ∧ (∀ y0 y1 y2 y3 y4 y5 y6, LeO (partitalaw23_BeamMirrors.l1 k y0 y1 y2 y3 y4 y5 y6) (partitalaw23_BeamMirrors.l1 (k + 1) y0 y1 y2 y3 y4 y5 y6))
 | 0 => ⟨fun _ _ _ _ _ _ r h => by simp [partitalaw23_BeamMirrors.l0] at h, fun _ _ _ _ _ _ _ r h => by simp [partitalaw23_BeamMirrors.j1] at h, fun _ _ _ _ _ _ _ _ _ r h => by simp [partitalaw23_BeamMirrors.j2] at h, fun _ _ _ _ _ _ _ r h => by simp [partitalaw23_BeamMirrors.l1] at h⟩
 | k + 1 => by
  obtain ⟨ih0, ih1, ih2, ih3⟩ := partitalaw23_BeamMirrors.mono_l k
  refine ⟨?_, ?_, ?_, ?_⟩
  · intro y0 y1 y2 y3 y4 y5
    unfold partitalaw23_BeamMirrors.l0
    repeat' first
    | (with_reducible exact ih0 _ _ _ _ _ _)
    | (with_reducible exact ih1 _ _ _ _ _ _ _)
    | (with_reducible exact ih2 _ _ _ _ _ _ _ _ _)
    | (with_reducible exact ih3 _ _ _ _ _ _ _)
    | (with_reducible exact beam_Slope.mono _ _ _)
    | (with_reducible exact partitalaw23_shown.mono _)
    | (with_reducible exact LeO.refl _)
    | (with_reducible exact LeO.none _)
    | (with_reducible refine LeO.ite ?_ ?_)
    | (with_reducible refine LeO.bind ?_ (fun _ => ?_))
    | exact ih0 _ _ _ _ _ _
    | exact ih1 _ _ _ _ _ _ _
    | exact ih2 _ _ _ _ _ _ _ _ _
    | exact ih3 _ _ _ _ _ _ _
    | exact beam_Slope.mono _ _ _
    | exact partitalaw23_shown.mono _
    | exact LeO.none _
    | refine LeO.ite ?_ ?_
    | refine LeO.bind ?_ (fun _ => ?_)
  · intro y0 y1 y2 y3 y4 y5 y6
    unfold partitalaw23_BeamMirrors.j1
    repeat' first
    | (with_reducible exact ih0 _ _ _ _ _ _)
    | (with_reducible exact ih1 _ _ _ _ _ _ _)
    | (with_reducible exact ih2 _ _ _ _ _ _ _ _ _)
    | (with_reducible exact ih3 _ _ _ _ _ _ _)
    | (with_reducible exact beam_Slope.mono _ _ _)
    | (with_reducible exact partitalaw23_shown.mono _)
    | (with_reducible exact LeO.refl _)
    | (with_reducible exact LeO.none _)
    | (with_reducible refine LeO.ite ?_ ?_)
    | (with_reducible refine LeO.bind ?_ (fun _ => ?_))
    | exact ih0 _ _ _ _ _ _
    | exact ih1 _ _ _ _ _ _ _
    | exact ih2 _ _ _ _ _ _ _ _ _
    | exact ih3 _ _ _ _ _ _ _
    | exact beam_Slope.mono _ _ _
    | exact partitalaw23_shown.mono _
    | exact LeO.none _
    | refine LeO.ite ?_ ?_
    | refine LeO.bind ?_ (fun _ => ?_)
  · intro y0 y1 y2 y3 y4 y5 y6 y7 y8
    unfold partitalaw23_BeamMirrors.j2
    repeat' first
    | (with_reducible exact ih0 _ _ _ _ _ _)
    | (with_reducible exact ih1 _ _ _ _ _ _ _)
    | (with_reducible exact ih2 _ _ _ _ _ _ _ _ _)
    | (with_reducible exact ih3 _ _ _ _ _ _ _)
    | (with_reducible exact beam_Slope.mono _ _ _)
    | (with_reducible exact partitalaw23_shown.mono _)
    | (with_reducible exact LeO.refl _)
    | (with_reducible exact LeO.none _)
    | (with_reducible refine LeO.ite ?_ ?_)
    | (with_reducible refine LeO.bind ?_ (fun _ => ?_))
    | exact ih0 _ _ _ _ _ _
    | exact ih1 _ _ _ _ _ _ _
    | exact ih2 _ _ _ _ _ _ _ _ _
    | exact ih3 _ _ _ _ _ _ _
    | exact beam_Slope.mono _ _ _
    | exact partitalaw23_shown.mono _
    | exact LeO.none _
    | refine LeO.ite ?_ ?_
    | refine LeO.bind ?_ (fun _ => ?_)
  · intro y0 y1 y2 y3 y4 y5 y6
    unfold partitalaw23_BeamMirrors.l1
    repeat' first
    | (with_reducible exact ih0 _ _ _ _ _ _)
    | (with_reducible exact ih1 _ _ _ _ _ _ _)
    | (with_reducible exact ih2 _ _ _ _ _ _ _ _ _)
    | (with_reducible exact ih3 _ _ _ _ _ _ _)
    | (with_reducible exact beam_Slope.mono _ _ _)
    | (with_reducible exact partitalaw23_shown.mono _)
    | (with_reducible exact LeO.refl _)
    | (with_reducible exact LeO.none _)
    | (with_reducible refine LeO.ite ?_ ?_)
    | (with_reducible refine LeO.bind ?_ (fun _ => ?_))
    | exact ih0 _ _ _ _ _ _
    | exact ih1 _ _ _ _ _ _ _
    | exact ih2 _ _ _ _ _ _ _ _ _
    | exact ih3 _ _ _ _ _ _ _
    | exact beam_Slope.mono _ _ _
    | exact partitalaw23_shown.mono _
    | exact LeO.none _
    | refine LeO.ite ?_ ?_
    | refine LeO.bind ?_ (fun _ => ?_)
theorem partitalaw23_BeamMirrors.mono : ∀ a0 a1 k, LeO (partitalaw23_BeamMirrors.f k a0 a1) (partitalaw23_BeamMirrors.f (k + 1) a0 a1) := by
 intro a0 a1 k
 obtain ⟨ih0, ih1, ih2, ih3⟩ := partitalaw23_BeamMirrors.mono_l k
 unfold partitalaw23_BeamMirrors.f
 repeat' first
  | (with_reducible exact ih0 _ _ _ _ _ _)
  | (with_reducible exact ih1 _ _ _ _ _ _ _)
  | (with_reducible exact ih2 _ _ _ _ _ _ _ _ _)
  | (with_reducible exact ih3 _ _ _ _ _ _ _)
  | (with_reducible exact beam_Slope.mono _ _ _)
  | (with_reducible exact partitalaw23_shown.mono _)
  | (with_reducible exact LeO.refl _)
  | (with_reducible exact LeO.none _)
  | (with_reducible refine LeO.ite ?_ ?_)
  | (with_reducible refine LeO.bind ?_ (fun _ => ?_))
  | exact ih0 _ _ _ _ _ _
  | exact ih1 _ _ _ _ _ _ _
  | exact ih2 _ _ _ _ _ _ _ _ _
  | exact ih3 _ _ _ _ _ _ _
  | exact beam_Slope.mono _ _ _
  | exact partitalaw23_shown.mono _
  | exact LeO.none _
  | refine LeO.ite ?_ ?_
  | refine LeO.bind ?_ (fun _ => ?_)
set_option maxHeartbeats 8000000 in
set_option maxRecDepth 100000 in
theorem partitalaw23_BeamMirrors.calls (k : Nat) (A0 : Option Addr) (c0 : Nat) (l0 : List Int) (a1 : Int) (r : Bool) (w : World) (hr0 : Kd.C (Kd.int .i64) w A0 l0.length l0) (hc0 : l0.length ≤ c0) (h : partitalaw23_BeamMirrors.f k l0 a1 = some r) (SENTS : Aside0 (SentsE w) := by exact sents_step (by assumption) (by repeat (first | (with_reducible first | exact (by assumption : Aside0 (Below _ _ _)).out | apply below_alloc | apply pw_below_drewN | apply below_drew1 | refine below_set ?_ (Aside0.out (by assumption)))))) :
 Calls Tryz.prog 3 #[.slice A0 l0.length c0, .int .i64 a1] w fun e w' => e = .returned (.bool r) ∧ Below w.heap.size w w' := by
 have HR0 := Aside0.mk hr0
 have HC0 := Aside0.mk hc0
 clear hr0 hc0
 have HB := Aside0.mk (Below.refl w.heap.size w)
 have H : ((partitalaw23_shown.f k).bind fun t260 => (partitalaw23_BeamMirrors.l0 k l0 (mn (mx a1 (-100)) 100) t260 ([] : List Int) ([] : List Int) 0)) = some r := h
 clear h
 replace H := Option.bind_eq_some_iff.mp H
 obtain ⟨t260, A30, H⟩ := H
 replace H : (partitalaw23_BeamMirrors.l0 k l0 (mn (mx a1 (-100)) 100) t260 ([] : List Int) ([] : List Int) 0) = some r := H
 have A3 := Aside0.mk A30
 clear A30
 obtain ⟨ji4, hji4⟩ : ∃ j_ : Int, (mx a1 (-100)) = j_ := ⟨_, rfl⟩
 replace H : (partitalaw23_BeamMirrors.l0 k l0 (mn (ji4) 100) t260 ([] : List Int) ([] : List Int) 0) = some r := by first | (rw [hji4] at H; exact H) | (simp only [hji4] at H ⊢; exact H)
 (try rw [hji4] at A3)
 have hji4_ : (if a1 < (-100) then (-100) else a1) = ji4 := hji4
 obtain ⟨ji5, hji5⟩ : ∃ j_ : Int, (mn (ji4) 100) = j_ := ⟨_, rfl⟩
 replace H : (partitalaw23_BeamMirrors.l0 k l0 ji5 t260 ([] : List Int) ([] : List Int) 0) = some r := by first | (rw [hji5] at H; exact H) | (simp only [hji5] at H ⊢; exact H)
 (try rw [hji5] at A3)
 have hji5_ : (if 100 < (ji4) then 100 else (ji4)) = ji5 := hji5
 have H' := Aside0.mk H
 clear H
 go_enter Tryz.func3, Tryz.ntmps3
 go_wp2_with (first | (go_at_call 11; (with_reducible refine (partitalaw23_shown.calls k  t260 _ A3.out).mono ?_); rintro e w6 ⟨rfl, hb⟩; replace HB := Aside0.mk (below_step (qW HB.out) hb); (try clear hb); (try clear hb2); (try clear hk); (try clear hi)))
 repeat (go_quiet (first | (go_at_call 11; (with_reducible refine (partitalaw23_shown.calls k  t260 _ A3.out).mono ?_); rintro e w6 ⟨rfl, hb⟩; replace HB := Aside0.mk (below_step (qW HB.out) hb); (try clear hb); (try clear hb2); (try clear hk); (try clear hi))); try go_wp2_with (first | (go_at_call 11; (with_reducible refine (partitalaw23_shown.calls k  t260 _ A3.out).mono ?_); rintro e w6 ⟨rfl, hb⟩; replace HB := Aside0.mk (below_step (qW HB.out) hb); (try clear hb); (try clear hb2); (try clear hk); (try clear hi))))
 go_loopg [6, 7, 8] k (fun kq v6 v7 v8 w' => ∃ (x6_1 : List Int) (x7_1 : List Int) (x8_1 : Int), v8 = .int .i64 x8_1 ∧ Aside0 (partitalaw23_BeamMirrors.l0 kq l0 ji5 t260 x6_1 x7_1 x8_1 = some r) ∧ Aside0 (kq ≤ k) ∧ Aside0 (Kd.R (Kd.int .i64) 3 w' w.heap.size (fun k_ => some k_ ≠ (v7 : Value).ownBlock) v6 x6_1) ∧ Aside0 (Kd.R (Kd.int .i64) 3 w' w.heap.size (fun k_ => some k_ ≠ (v6 : Value).ownBlock) v7 x7_1) ∧ Aside0 (Below w.heap.size w w'))
 case atStart => exact ⟨(([] : List Int)), (([] : List Int)), (0), (by first | rfl | (simp; done) | (simp [*]; done) | (simp [wrap64]; done)), H', ⟨Nat.le_refl _⟩, ⟨by first | exact Kd.R_nil _ _ _ _ _ | exact Kd.N_nil _ _ _ _ _ | exact Kd.V_nil _ _ _ _ _ | exact Kd.Q_nil _ _ _ _ _ | exact Kd.S_nil _ _ _ _ _⟩, ⟨by first | exact Kd.R_nil _ _ _ _ _ | exact Kd.N_nil _ _ _ _ _ | exact Kd.V_nil _ _ _ _ _ | exact Kd.Q_nil _ _ _ _ _ | exact Kd.S_nil _ _ _ _ _⟩, ⟨by exact qW HB.out⟩⟩
 case round =>
  clear H'
  try clear p2
  try clear c3
  obtain ⟨x6_1, x7_1, x8_1, rfl, HA, HK1, HO_6, HO_7, HB⟩ := hrel
  cases gk with
  | zero => exact absurd HA.out (by simp [partitalaw23_BeamMirrors.l0])
  | succ k1 =>
   have H := HA.out
   clear HA
   simp only [partitalaw23_BeamMirrors.l0] at H
   have HC7 := Aside0.mk H
   clear H
   go_upto_region 6 with (fail)
   repeat (go_quiet (fail); go_upto_region 6 with (fail))
   go_cut [27] (fun v27 wc => ∃ (kq : Nat) (x27_6 : Bool), v27 = .bool x27_6 ∧ Aside0 (partitalaw23_BeamMirrors.j1 kq l0 ji5 t260 x6_1 x7_1 x8_1 x27_6 = some r) ∧ Aside0 (kq ≤ k1) ∧ Aside0 (Kd.R (Kd.int .i64) 3 wc w.heap.size (fun k_ => some k_ ≠ (u7 : Value).ownBlock) u6 x6_1) ∧ Aside0 (Kd.R (Kd.int .i64) 3 wc w.heap.size (fun k_ => some k_ ≠ (u6 : Value).ownBlock) u7 x7_1) ∧ Aside0 (Below w.heap.size w wc))
   case first =>
    have H := HC7.out
    clear HC7
    by_cases c8 : x8_1 < (l0.length : Int)
    · rw [if_pos c8] at H
      have c8b0 : decide (x8_1 < (l0.length : Int)) = true := decide_eq_true c8
      clear c8
      (first | rw [c8b0] | (simp only [i64_w, i32_w]; rw [c8b0]) | skip)
      have H' := Aside0.mk H
      clear H
      go_wp2
      repeat (go_quiet (fail); try go_wp2)
      go_meet
      case rel => exact ⟨_, (decide (x8_1 < 65)), (by first | rfl | (simp; done) | (simp [*]; done) | (simp [wrap64]; done)), H', ⟨by have := HK1.out; first | omega | exact Nat.le_refl _⟩, ⟨by (with_reducible repeat (first | apply Kd.R_alloc | apply Kd.R_drewN | apply Kd.R_drew)); exact HO_6.out⟩, ⟨by (with_reducible repeat (first | apply Kd.R_alloc | apply Kd.R_drewN | apply Kd.R_drew)); exact HO_7.out⟩, ⟨by exact qW HB.out⟩⟩
    · rw [if_neg c8] at H
      have c8b0 : decide (x8_1 < (l0.length : Int)) = false := decide_eq_false c8
      clear c8
      (first | rw [c8b0] | (simp only [i64_w, i32_w]; rw [c8b0]) | skip)
      have H' := Aside0.mk H
      clear H
      go_wp2
      repeat (go_quiet (fail); try go_wp2)
      go_meet
      case rel => exact ⟨_, (false), (by first | rfl | (simp; done) | (simp [*]; done) | (simp [wrap64]; done)), H', ⟨by have := HK1.out; first | omega | exact Nat.le_refl _⟩, ⟨by (with_reducible repeat (first | apply Kd.R_alloc | apply Kd.R_drewN | apply Kd.R_drew)); exact HO_6.out⟩, ⟨by (with_reducible repeat (first | apply Kd.R_alloc | apply Kd.R_drewN | apply Kd.R_drew)); exact HO_7.out⟩, ⟨by exact qW HB.out⟩⟩
   case rest =>
    clear HC7
    try clear p2
    try clear c3
    try clear c8
    try clear c8b0
    try clear p2
    obtain ⟨kq, x27_6, rfl, HA, HJ6, HO_6, HO_7, HB⟩ := hcut
    cases kq with
    | zero => exact absurd HA.out (by simp [partitalaw23_BeamMirrors.j1])
    | succ kj6 =>
     have H := HA.out
     clear HA
     simp only [partitalaw23_BeamMirrors.j1] at H
     by_cases c9 : x27_6 = true
     · subst c9
       have H1 : (if 0 ≤ x8_1 then (if x8_1 < (l0.length : Int) then (if (rd l0 x8_1) < (-100) then (some t260) else (if (rd l0 x8_1) > 100 then (some t260) else (if x6_1.length < 17592186044416 then (if x7_1.length < 17592186044416 then (partitalaw23_BeamMirrors.l0 kj6 l0 ji5 t260 (x6_1 ++ [wrap64 (-(rd l0 x8_1))]) (x7_1 ++ [wrap64 ((rd l0 x8_1) + ji5)]) (wrap64 (x8_1 + 1))) else (none)) else (none)))) else (none)) else (none)) = some r := by rw [if_pos rfl] at H; exact H
       clear H
       have H := H1
       clear H1
       by_cases c10 : 0 ≤ x8_1
       · rw [if_pos c10] at H
         have c10b0 : decide (0 ≤ x8_1) = true := decide_eq_true c10
         clear c10
         by_cases c11 : x8_1 < (l0.length : Int)
         · rw [if_pos c11] at H
           have c11b0 : decide (x8_1 < (l0.length : Int)) = true := decide_eq_true c11
           clear c11
           by_cases c12 : (rd l0 x8_1) < (-100)
           · rw [if_pos c12] at H
             have c12b0 : decide ((rd l0 x8_1) < (-100)) = true := decide_eq_true c12
             clear c12
             obtain rfl := Option.some.inj H
             have p261 : 0 ≤ (x8_1 : Int) := of_decide_eq_true (by first | (with_reducible assumption) | assumption)
             have q261 : x8_1 < (l0.length : Int) := of_decide_eq_true (by first | (with_reducible assumption) | assumption)
             obtain ⟨ad261, e261, hx261_0⟩ := Kd.at_int HR0.out x8_1 p261 q261
             cases e261
             replace hx261_0 := (HB.out.cell (World.block_lt_of_cell? w _ hx261_0)).trans hx261_0
             replace p261 := eq_true p261
             replace q261 := eq_true q261
             go_wp2
             repeat (go_quiet (fail); try go_wp2)
             go_ret
             exact ⟨by first | rfl | (simp [errW_none, errW_some] <;> rfl) | (simp only [← hji4, ← hji5]; first | rfl | (simp [errW_none, errW_some] <;> rfl)) | (simp [*, errW_none, errW_some] <;> rfl), by exact qW HB.out⟩
           · rw [if_neg c12] at H
             have c12b0 : decide ((rd l0 x8_1) < (-100)) = false := decide_eq_false c12
             clear c12
             by_cases c13 : (rd l0 x8_1) > 100
             · rw [if_pos c13] at H
               have c13b0 : decide (100 < (rd l0 x8_1)) = true := decide_eq_true c13
               clear c13
               obtain rfl := Option.some.inj H
               have p261 : 0 ≤ (x8_1 : Int) := of_decide_eq_true (by first | (with_reducible assumption) | assumption)
               have q261 : x8_1 < (l0.length : Int) := of_decide_eq_true (by first | (with_reducible assumption) | assumption)
               obtain ⟨ad261, e261, hx261_0⟩ := Kd.at_int HR0.out x8_1 p261 q261
               cases e261
               replace hx261_0 := (HB.out.cell (World.block_lt_of_cell? w _ hx261_0)).trans hx261_0
               replace p261 := eq_true p261
               replace q261 := eq_true q261
               have p262 : 0 ≤ (x8_1 : Int) := of_decide_eq_true (by first | (with_reducible assumption) | assumption)
               have q262 : x8_1 < (l0.length : Int) := of_decide_eq_true (by first | (with_reducible assumption) | assumption)
               obtain ⟨ad262, e262, hx262_0⟩ := Kd.at_int HR0.out x8_1 p262 q262
               obtain rfl : ad261 = ad262 := (by injection e262)
               replace hx262_0 := (HB.out.cell (World.block_lt_of_cell? w _ hx262_0)).trans hx262_0
               replace p262 := eq_true p262
               replace q262 := eq_true q262
               go_wp2
               repeat (go_quiet (fail); try go_wp2)
               go_ret
               exact ⟨by first | rfl | (simp [errW_none, errW_some] <;> rfl) | (simp only [← hji4, ← hji5]; first | rfl | (simp [errW_none, errW_some] <;> rfl)) | (simp [*, errW_none, errW_some] <;> rfl), by exact qW HB.out⟩
             · rw [if_neg c13] at H
               have c13b0 : decide (100 < (rd l0 x8_1)) = false := decide_eq_false c13
               clear c13
               by_cases c14 : x6_1.length < 17592186044416
               · rw [if_pos c14] at H
                 have LMc14 := Aside0.mk c14
                 clear c14
                 obtain ⟨y264, hy264⟩ : ∃ y_ : List Int, y_ = (x6_1 ++ [wrap64 (-(rd l0 x8_1))]) := ⟨_, rfl⟩
                 replace H : (if x7_1.length < 17592186044416 then (partitalaw23_BeamMirrors.l0 kj6 l0 ji5 t260 y264 (x7_1 ++ [wrap64 ((rd l0 x8_1) + ji5)]) (wrap64 (x8_1 + 1))) else (none)) = some r := by first | (rw [hy264]; with_reducible exact H) | (have H2_ := (Option.bind_some _ _).symm.trans H; rw [hy264]; with_reducible exact H2_) | (have H2_ := (Option.bind_some _ _).symm.trans H; with_reducible exact H2_) | with_reducible exact H | (rw [hy264]; exact H) | exact H
                 have Ny264 := Aside0.mk hy264
                 clear hy264
                 by_cases c15 : x7_1.length < 17592186044416
                 · rw [if_pos c15] at H
                   have LMc15 := Aside0.mk c15
                   clear c15
                   obtain ⟨y268, hy268⟩ : ∃ y_ : List Int, y_ = (x7_1 ++ [wrap64 ((rd l0 x8_1) + ji5)]) := ⟨_, rfl⟩
                   replace H : (partitalaw23_BeamMirrors.l0 kj6 l0 ji5 t260 y264 y268 (wrap64 (x8_1 + 1))) = some r := by first | (rw [hy268]; with_reducible exact H) | (have H2_ := (Option.bind_some _ _).symm.trans H; rw [hy268]; with_reducible exact H2_) | (have H2_ := (Option.bind_some _ _).symm.trans H; with_reducible exact H2_) | with_reducible exact H | (rw [hy268]; exact H) | exact H
                   have Ny268 := Aside0.mk hy268
                   clear hy268
                   have H' := Aside0.mk H
                   clear H
                   have p261 : 0 ≤ (x8_1 : Int) := of_decide_eq_true (by first | (with_reducible assumption) | assumption)
                   have q261 : x8_1 < (l0.length : Int) := of_decide_eq_true (by first | (with_reducible assumption) | assumption)
                   obtain ⟨ad261, e261, hx261_0⟩ := Kd.at_int HR0.out x8_1 p261 q261
                   cases e261
                   replace hx261_0 := (HB.out.cell (World.block_lt_of_cell? w _ hx261_0)).trans hx261_0
                   replace p261 := eq_true p261
                   replace q261 := eq_true q261
                   have p262 : 0 ≤ (x8_1 : Int) := of_decide_eq_true (by first | (with_reducible assumption) | assumption)
                   have q262 : x8_1 < (l0.length : Int) := of_decide_eq_true (by first | (with_reducible assumption) | assumption)
                   obtain ⟨ad262, e262, hx262_0⟩ := Kd.at_int HR0.out x8_1 p262 q262
                   obtain rfl : ad261 = ad262 := (by injection e262)
                   replace hx262_0 := (HB.out.cell (World.block_lt_of_cell? w _ hx262_0)).trans hx262_0
                   replace p262 := eq_true p262
                   replace q262 := eq_true q262
                   have p263 : 0 ≤ (x8_1 : Int) := of_decide_eq_true (by first | (with_reducible assumption) | assumption)
                   have q263 : x8_1 < (l0.length : Int) := of_decide_eq_true (by first | (with_reducible assumption) | assumption)
                   obtain ⟨ad263, e263, hx263_0⟩ := Kd.at_int HR0.out x8_1 p263 q263
                   obtain rfl : ad261 = ad263 := (by injection e263)
                   replace hx263_0 := (HB.out.cell (World.block_lt_of_cell? w _ hx263_0)).trans hx263_0
                   replace p263 := eq_true p263
                   replace q263 := eq_true q263
                   go_wp2_with (first | ((with_reducible refine gate_builtin (b := .append) (xs := #[.tmp 43, .tmp 49]) rfl ?_); (try (refine gate_guard (by rfl) ?_; dsimp only)); at_builtin; refine Kd.R_append (Kd.int .i64) (w0 := w) w.heap.size rfl (.tmp 43) (.tmp 49) 22 3 (.int .i64 0) 8 rfl Tryz.underlying22 info3 rfl (by decide) (by omega) u6 x6_1 (wrap64 (-(rd l0 x8_1))) [.int .i64 (wrap64 (-(rd l0 x8_1)))] (fun k_ => some k_ ≠ (u7 : Value).ownBlock) (fun _ => False) rfl rfl ?aP (fun _ hk => hk.elim) ?aF ?aO ?aB ?aS ?aL ?_; (case aP => exact rfl); (case aB => exact (qW HB.out)); (case aF => exact (fun k_ hk => Kd.fresh' (Kd.R_lt (qR HO_7.out)) k_ hk)); (case aO => exact (qR HO_6.out)); (case aS => exact (below_size (qW HB.out))); (case aL => have := LMc14.out; omega); intro v265 w16 ho hb hg hat; rw [← Ny264.out] at ho; replace HO_7 := Aside0.mk (Kd.R_after (ok := (fun _ => True)) (qR (Kd.R_mono HO_7.out (fun _ hk => ⟨trivial, hk⟩))) hg hat); replace HB := Aside0.mk (hb); have HO266 := Aside0.mk (ho); clear HO_6; clear ho hb hg hat; have p267 : 0 ≤ (x8_1 : Int) := of_decide_eq_true (by first | (with_reducible assumption) | assumption); have q267 : x8_1 < (l0.length : Int) := of_decide_eq_true (by first | (with_reducible assumption) | assumption); obtain ⟨ad267, e267, hx267_0⟩ := Kd.at_int HR0.out x8_1 p267 q267; obtain rfl : ad261 = ad267 := (by injection e267); replace hx267_0 := (HB.out.cell (World.block_lt_of_cell? w _ hx267_0)).trans hx267_0; replace p267 := eq_true p267; replace q267 := eq_true q267) | ((with_reducible refine gate_builtin (b := .append) (xs := #[.tmp 51, .tmp 58]) rfl ?_); (try (refine gate_guard (by rfl) ?_; dsimp only)); at_builtin; refine Kd.R_append (Kd.int .i64) (w0 := w) w.heap.size rfl (.tmp 51) (.tmp 58) 22 3 (.int .i64 0) 8 rfl Tryz.underlying22 info3 rfl (by decide) (by omega) u7 x7_1 (wrap64 ((rd l0 x8_1) + ji5)) [.int .i64 (wrap64 ((rd l0 x8_1) + ji5))] (fun k_ => some k_ ≠ (v265 : Value).ownBlock) (fun _ => False) rfl rfl ?aP (fun _ hk => hk.elim) ?aF ?aO ?aB ?aS ?aL ?_; (case aP => exact rfl); (case aB => exact (qW HB.out)); (case aF => exact (fun k_ hk => Kd.fresh' (Kd.R_lt (qR HO266.out)) k_ hk)); (case aO => exact (qR (Kd.R_mono HO_7.out (fun _ hk => hk.2)))); (case aS => exact (below_size (qW HB.out))); (case aL => have := LMc15.out; omega); intro v269 w17 ho hb hg hat; rw [← Ny268.out] at ho; replace HO266 := Aside0.mk (Kd.R_after (ok := (fun _ => True)) (qR (Kd.R_mono HO266.out (fun _ hk => ⟨trivial, hk⟩))) hg hat); replace HB := Aside0.mk (hb); have HO270 := Aside0.mk (ho); clear HO_7; clear ho hb hg hat))
                   repeat (go_quiet (first | ((with_reducible refine gate_builtin (b := .append) (xs := #[.tmp 43, .tmp 49]) rfl ?_); (try (refine gate_guard (by rfl) ?_; dsimp only)); at_builtin; refine Kd.R_append (Kd.int .i64) (w0 := w) w.heap.size rfl (.tmp 43) (.tmp 49) 22 3 (.int .i64 0) 8 rfl Tryz.underlying22 info3 rfl (by decide) (by omega) u6 x6_1 (wrap64 (-(rd l0 x8_1))) [.int .i64 (wrap64 (-(rd l0 x8_1)))] (fun k_ => some k_ ≠ (u7 : Value).ownBlock) (fun _ => False) rfl rfl ?aP (fun _ hk => hk.elim) ?aF ?aO ?aB ?aS ?aL ?_; (case aP => exact rfl); (case aB => exact (qW HB.out)); (case aF => exact (fun k_ hk => Kd.fresh' (Kd.R_lt (qR HO_7.out)) k_ hk)); (case aO => exact (qR HO_6.out)); (case aS => exact (below_size (qW HB.out))); (case aL => have := LMc14.out; omega); intro v265 w16 ho hb hg hat; rw [← Ny264.out] at ho; replace HO_7 := Aside0.mk (Kd.R_after (ok := (fun _ => True)) (qR (Kd.R_mono HO_7.out (fun _ hk => ⟨trivial, hk⟩))) hg hat); replace HB := Aside0.mk (hb); have HO266 := Aside0.mk (ho); clear HO_6; clear ho hb hg hat; have p267 : 0 ≤ (x8_1 : Int) := of_decide_eq_true (by first | (with_reducible assumption) | assumption); have q267 : x8_1 < (l0.length : Int) := of_decide_eq_true (by first | (with_reducible assumption) | assumption); obtain ⟨ad267, e267, hx267_0⟩ := Kd.at_int HR0.out x8_1 p267 q267; obtain rfl : ad261 = ad267 := (by injection e267); replace hx267_0 := (HB.out.cell (World.block_lt_of_cell? w _ hx267_0)).trans hx267_0; replace p267 := eq_true p267; replace q267 := eq_true q267) | ((with_reducible refine gate_builtin (b := .append) (xs := #[.tmp 51, .tmp 58]) rfl ?_); (try (refine gate_guard (by rfl) ?_; dsimp only)); at_builtin; refine Kd.R_append (Kd.int .i64) (w0 := w) w.heap.size rfl (.tmp 51) (.tmp 58) 22 3 (.int .i64 0) 8 rfl Tryz.underlying22 info3 rfl (by decide) (by omega) u7 x7_1 (wrap64 ((rd l0 x8_1) + ji5)) [.int .i64 (wrap64 ((rd l0 x8_1) + ji5))] (fun k_ => some k_ ≠ (v265 : Value).ownBlock) (fun _ => False) rfl rfl ?aP (fun _ hk => hk.elim) ?aF ?aO ?aB ?aS ?aL ?_; (case aP => exact rfl); (case aB => exact (qW HB.out)); (case aF => exact (fun k_ hk => Kd.fresh' (Kd.R_lt (qR HO266.out)) k_ hk)); (case aO => exact (qR (Kd.R_mono HO_7.out (fun _ hk => hk.2)))); (case aS => exact (below_size (qW HB.out))); (case aL => have := LMc15.out; omega); intro v269 w17 ho hb hg hat; rw [← Ny268.out] at ho; replace HO266 := Aside0.mk (Kd.R_after (ok := (fun _ => True)) (qR (Kd.R_mono HO266.out (fun _ hk => ⟨trivial, hk⟩))) hg hat); replace HB := Aside0.mk (hb); have HO270 := Aside0.mk (ho); clear HO_7; clear ho hb hg hat)); try go_wp2_with (first | ((with_reducible refine gate_builtin (b := .append) (xs := #[.tmp 43, .tmp 49]) rfl ?_); (try (refine gate_guard (by rfl) ?_; dsimp only)); at_builtin; refine Kd.R_append (Kd.int .i64) (w0 := w) w.heap.size rfl (.tmp 43) (.tmp 49) 22 3 (.int .i64 0) 8 rfl Tryz.underlying22 info3 rfl (by decide) (by omega) u6 x6_1 (wrap64 (-(rd l0 x8_1))) [.int .i64 (wrap64 (-(rd l0 x8_1)))] (fun k_ => some k_ ≠ (u7 : Value).ownBlock) (fun _ => False) rfl rfl ?aP (fun _ hk => hk.elim) ?aF ?aO ?aB ?aS ?aL ?_; (case aP => exact rfl); (case aB => exact (qW HB.out)); (case aF => exact (fun k_ hk => Kd.fresh' (Kd.R_lt (qR HO_7.out)) k_ hk)); (case aO => exact (qR HO_6.out)); (case aS => exact (below_size (qW HB.out))); (case aL => have := LMc14.out; omega); intro v265 w16 ho hb hg hat; rw [← Ny264.out] at ho; replace HO_7 := Aside0.mk (Kd.R_after (ok := (fun _ => True)) (qR (Kd.R_mono HO_7.out (fun _ hk => ⟨trivial, hk⟩))) hg hat); replace HB := Aside0.mk (hb); have HO266 := Aside0.mk (ho); clear HO_6; clear ho hb hg hat; have p267 : 0 ≤ (x8_1 : Int) := of_decide_eq_true (by first | (with_reducible assumption) | assumption); have q267 : x8_1 < (l0.length : Int) := of_decide_eq_true (by first | (with_reducible assumption) | assumption); obtain ⟨ad267, e267, hx267_0⟩ := Kd.at_int HR0.out x8_1 p267 q267; obtain rfl : ad261 = ad267 := (by injection e267); replace hx267_0 := (HB.out.cell (World.block_lt_of_cell? w _ hx267_0)).trans hx267_0; replace p267 := eq_true p267; replace q267 := eq_true q267) | ((with_reducible refine gate_builtin (b := .append) (xs := #[.tmp 51, .tmp 58]) rfl ?_); (try (refine gate_guard (by rfl) ?_; dsimp only)); at_builtin; refine Kd.R_append (Kd.int .i64) (w0 := w) w.heap.size rfl (.tmp 51) (.tmp 58) 22 3 (.int .i64 0) 8 rfl Tryz.underlying22 info3 rfl (by decide) (by omega) u7 x7_1 (wrap64 ((rd l0 x8_1) + ji5)) [.int .i64 (wrap64 ((rd l0 x8_1) + ji5))] (fun k_ => some k_ ≠ (v265 : Value).ownBlock) (fun _ => False) rfl rfl ?aP (fun _ hk => hk.elim) ?aF ?aO ?aB ?aS ?aL ?_; (case aP => exact rfl); (case aB => exact (qW HB.out)); (case aF => exact (fun k_ hk => Kd.fresh' (Kd.R_lt (qR HO266.out)) k_ hk)); (case aO => exact (qR (Kd.R_mono HO_7.out (fun _ hk => hk.2)))); (case aS => exact (below_size (qW HB.out))); (case aL => have := LMc15.out; omega); intro v269 w17 ho hb hg hat; rw [← Ny268.out] at ho; replace HO266 := Aside0.mk (Kd.R_after (ok := (fun _ => True)) (qR (Kd.R_mono HO266.out (fun _ hk => ⟨trivial, hk⟩))) hg hat); replace HB := Aside0.mk (hb); have HO270 := Aside0.mk (ho); clear HO_7; clear ho hb hg hat)))
                   go_roundg kj6
                   case measure => have := HK1.out; have := HJ6.out; omega
                   case rel => exact ⟨(y264), (y268), (wrap64 (x8_1 + 1)), (by first | rfl | (simp; done) | (simp [*]; done) | (simp [wrap64]; done)), H', ⟨by have := HK1.out; have := HJ6.out; omega⟩, ⟨by (with_reducible repeat (first | apply Kd.R_alloc | apply Kd.R_drewN | apply Kd.R_drew)); exact Kd.R_mono HO266.out (fun _ hk => hk.2)⟩, ⟨by (with_reducible repeat (first | apply Kd.R_alloc | apply Kd.R_drewN | apply Kd.R_drew)); exact HO270.out⟩, ⟨by exact qW HB.out⟩⟩
                 · rw [if_neg c15] at H
                   exact absurd H (by simp)
               · rw [if_neg c14] at H
                 exact absurd H (by simp)
         · rw [if_neg c11] at H
           exact absurd H (by simp)
       · rw [if_neg c10] at H
         exact absurd H (by simp)
     · replace c9 := Bool.eq_false_iff.mpr c9
       subst c9
       have H1 : ((beam_Slope.f kj6 l0 true).bind fun bt271 => ((beam_Slope.f kj6 x6_1 false).bind fun bt275 => ((beam_Slope.f kj6 x7_1 true).bind fun bt279 => (if bt271.2 = 0 then (if bt275.2 = 0 then (partitalaw23_BeamMirrors.j2 kj6 ji5 t260 bt271.1 bt271.2 bt275.1 bt275.2 bt279.1 bt279.2 ((bt275.1.length : Int) != (bt271.1.length : Int))) else (partitalaw23_BeamMirrors.j2 kj6 ji5 t260 bt271.1 bt271.2 bt275.1 bt275.2 bt279.1 bt279.2 true)) else (partitalaw23_BeamMirrors.j2 kj6 ji5 t260 bt271.1 bt271.2 bt275.1 bt275.2 bt279.1 bt279.2 true))))) = some r := by rw [if_neg (show ¬ (false = true) by decide)] at H; exact H
       clear H
       have H := H1
       clear H1
       replace H := Option.bind_eq_some_iff.mp H
       obtain ⟨⟨t271, t272⟩, A180, H⟩ := H
       replace H : ((beam_Slope.f kj6 x6_1 false).bind fun bt275 => ((beam_Slope.f kj6 x7_1 true).bind fun bt279 => (if t272 = 0 then (if bt275.2 = 0 then (partitalaw23_BeamMirrors.j2 kj6 ji5 t260 t271 t272 bt275.1 bt275.2 bt279.1 bt279.2 ((bt275.1.length : Int) != (t271.length : Int))) else (partitalaw23_BeamMirrors.j2 kj6 ji5 t260 t271 t272 bt275.1 bt275.2 bt279.1 bt279.2 true)) else (partitalaw23_BeamMirrors.j2 kj6 ji5 t260 t271 t272 bt275.1 bt275.2 bt279.1 bt279.2 true)))) = some r := H
       have A18 := Aside0.mk A180
       clear A180
       replace H := Option.bind_eq_some_iff.mp H
       obtain ⟨⟨t275, t276⟩, A190, H⟩ := H
       replace H : ((beam_Slope.f kj6 x7_1 true).bind fun bt279 => (if t272 = 0 then (if t276 = 0 then (partitalaw23_BeamMirrors.j2 kj6 ji5 t260 t271 t272 t275 t276 bt279.1 bt279.2 ((t275.length : Int) != (t271.length : Int))) else (partitalaw23_BeamMirrors.j2 kj6 ji5 t260 t271 t272 t275 t276 bt279.1 bt279.2 true)) else (partitalaw23_BeamMirrors.j2 kj6 ji5 t260 t271 t272 t275 t276 bt279.1 bt279.2 true))) = some r := H
       have A19 := Aside0.mk A190
       clear A190
       replace H := Option.bind_eq_some_iff.mp H
       obtain ⟨⟨t279, t280⟩, A200, H⟩ := H
       replace H : (if t272 = 0 then (if t276 = 0 then (partitalaw23_BeamMirrors.j2 kj6 ji5 t260 t271 t272 t275 t276 t279 t280 ((t275.length : Int) != (t271.length : Int))) else (partitalaw23_BeamMirrors.j2 kj6 ji5 t260 t271 t272 t275 t276 t279 t280 true)) else (partitalaw23_BeamMirrors.j2 kj6 ji5 t260 t271 t272 t275 t276 t279 t280 true)) = some r := H
       have A20 := Aside0.mk A200
       clear A200
       have HC21 := Aside0.mk H
       clear H
       go_upto_region 15 with (first | (go_at_call 12; (with_reducible refine (beam_Slope.calls kj6 _ _ l0 true t271 t272 _ ?side1 ?side2 A18.out).mono ?_); (case side1 => repeat (first | exact (Kd.C_below HR0.out HB.out) | (with_reducible refine Kd.C_alloc ?_ _) | (with_reducible refine Kd.C_drewN ?_ _) | (with_reducible refine Kd.C_drew ?_))); (case side2 => exact HC0.out); rintro e w22 ⟨v273, rfl, ho0, hb⟩; have HO274 := Aside0.mk (Kd.R_lower (Kd.R_new' (Kd.R_new' ho0 (Kd.R_lt (qR HO_6.out))) (Kd.R_lt (qR HO_7.out))) (below_size (qW HB.out))); replace HO_6 := Aside0.mk (Kd.R_elder' (qR HO_6.out) (Kd.R_base ho0) hb); replace HO_7 := Aside0.mk (Kd.R_elder' (qR HO_7.out) (Kd.R_base ho0) hb); replace HB := Aside0.mk (below_step (qW HB.out) hb); (try clear hb); (try clear hb2); (try clear hk); (try clear hi); (try clear ho0); obtain ⟨Ao23, co23, eo23⟩ := Kd.R_slice HO_6.out; subst eo23) | (go_at_call 12; (with_reducible refine (beam_Slope.calls kj6 _ _ x6_1 false t275 t276 _ ?side1 ?side2 A19.out).mono ?_); (case side1 => repeat (first | exact (Kd.R_reads' HO_6.out).2.2 | (with_reducible refine Kd.C_alloc ?_ _) | (with_reducible refine Kd.C_drewN ?_ _) | (with_reducible refine Kd.C_drew ?_))); (case side2 => exact (Kd.R_reads' HO_6.out).2.1); rintro e w24 ⟨v277, rfl, ho0, hb⟩; have HO278 := Aside0.mk (Kd.R_lower (Kd.R_new' (Kd.R_new' (Kd.R_new' ho0 (Kd.R_lt (qR HO_6.out))) (Kd.R_lt (qR HO_7.out))) (Kd.R_lt (qR HO274.out))) (below_size (qW HB.out))); replace HO_6 := Aside0.mk (Kd.R_elder' (qR HO_6.out) (Kd.R_base ho0) hb); replace HO_7 := Aside0.mk (Kd.R_elder' (qR HO_7.out) (Kd.R_base ho0) hb); replace HO274 := Aside0.mk (Kd.R_elder' (qR HO274.out) (Kd.R_base ho0) hb); replace HB := Aside0.mk (below_step (qW HB.out) hb); (try clear hb); (try clear hb2); (try clear hk); (try clear hi); (try clear ho0); obtain ⟨Ao25, co25, eo25⟩ := Kd.R_slice HO_7.out; subst eo25) | (go_at_call 12; (with_reducible refine (beam_Slope.calls kj6 _ _ x7_1 true t279 t280 _ ?side1 ?side2 A20.out).mono ?_); (case side1 => repeat (first | exact (Kd.R_reads' HO_7.out).2.2 | (with_reducible refine Kd.C_alloc ?_ _) | (with_reducible refine Kd.C_drewN ?_ _) | (with_reducible refine Kd.C_drew ?_))); (case side2 => exact (Kd.R_reads' HO_7.out).2.1); rintro e w26 ⟨v281, rfl, ho0, hb⟩; have HO282 := Aside0.mk (Kd.R_lower (Kd.R_new' (Kd.R_new' (Kd.R_new' (Kd.R_new' ho0 (Kd.R_lt (qR HO_6.out))) (Kd.R_lt (qR HO_7.out))) (Kd.R_lt (qR HO274.out))) (Kd.R_lt (qR HO278.out))) (below_size (qW HB.out))); replace HO_6 := Aside0.mk (Kd.R_elder' (qR HO_6.out) (Kd.R_base ho0) hb); replace HO_7 := Aside0.mk (Kd.R_elder' (qR HO_7.out) (Kd.R_base ho0) hb); replace HO274 := Aside0.mk (Kd.R_elder' (qR HO274.out) (Kd.R_base ho0) hb); replace HO278 := Aside0.mk (Kd.R_elder' (qR HO278.out) (Kd.R_base ho0) hb); replace HB := Aside0.mk (below_step (qW HB.out) hb); (try clear hb); (try clear hb2); (try clear hk); (try clear hi); (try clear ho0)))
       repeat (go_quiet (first | (go_at_call 12; (with_reducible refine (beam_Slope.calls kj6 _ _ l0 true t271 t272 _ ?side1 ?side2 A18.out).mono ?_); (case side1 => repeat (first | exact (Kd.C_below HR0.out HB.out) | (with_reducible refine Kd.C_alloc ?_ _) | (with_reducible refine Kd.C_drewN ?_ _) | (with_reducible refine Kd.C_drew ?_))); (case side2 => exact HC0.out); rintro e w22 ⟨v273, rfl, ho0, hb⟩; have HO274 := Aside0.mk (Kd.R_lower (Kd.R_new' (Kd.R_new' ho0 (Kd.R_lt (qR HO_6.out))) (Kd.R_lt (qR HO_7.out))) (below_size (qW HB.out))); replace HO_6 := Aside0.mk (Kd.R_elder' (qR HO_6.out) (Kd.R_base ho0) hb); replace HO_7 := Aside0.mk (Kd.R_elder' (qR HO_7.out) (Kd.R_base ho0) hb); replace HB := Aside0.mk (below_step (qW HB.out) hb); (try clear hb); (try clear hb2); (try clear hk); (try clear hi); (try clear ho0); obtain ⟨Ao23, co23, eo23⟩ := Kd.R_slice HO_6.out; subst eo23) | (go_at_call 12; (with_reducible refine (beam_Slope.calls kj6 _ _ x6_1 false t275 t276 _ ?side1 ?side2 A19.out).mono ?_); (case side1 => repeat (first | exact (Kd.R_reads' HO_6.out).2.2 | (with_reducible refine Kd.C_alloc ?_ _) | (with_reducible refine Kd.C_drewN ?_ _) | (with_reducible refine Kd.C_drew ?_))); (case side2 => exact (Kd.R_reads' HO_6.out).2.1); rintro e w24 ⟨v277, rfl, ho0, hb⟩; have HO278 := Aside0.mk (Kd.R_lower (Kd.R_new' (Kd.R_new' (Kd.R_new' ho0 (Kd.R_lt (qR HO_6.out))) (Kd.R_lt (qR HO_7.out))) (Kd.R_lt (qR HO274.out))) (below_size (qW HB.out))); replace HO_6 := Aside0.mk (Kd.R_elder' (qR HO_6.out) (Kd.R_base ho0) hb); replace HO_7 := Aside0.mk (Kd.R_elder' (qR HO_7.out) (Kd.R_base ho0) hb); replace HO274 := Aside0.mk (Kd.R_elder' (qR HO274.out) (Kd.R_base ho0) hb); replace HB := Aside0.mk (below_step (qW HB.out) hb); (try clear hb); (try clear hb2); (try clear hk); (try clear hi); (try clear ho0); obtain ⟨Ao25, co25, eo25⟩ := Kd.R_slice HO_7.out; subst eo25) | (go_at_call 12; (with_reducible refine (beam_Slope.calls kj6 _ _ x7_1 true t279 t280 _ ?side1 ?side2 A20.out).mono ?_); (case side1 => repeat (first | exact (Kd.R_reads' HO_7.out).2.2 | (with_reducible refine Kd.C_alloc ?_ _) | (with_reducible refine Kd.C_drewN ?_ _) | (with_reducible refine Kd.C_drew ?_))); (case side2 => exact (Kd.R_reads' HO_7.out).2.1); rintro e w26 ⟨v281, rfl, ho0, hb⟩; have HO282 := Aside0.mk (Kd.R_lower (Kd.R_new' (Kd.R_new' (Kd.R_new' (Kd.R_new' ho0 (Kd.R_lt (qR HO_6.out))) (Kd.R_lt (qR HO_7.out))) (Kd.R_lt (qR HO274.out))) (Kd.R_lt (qR HO278.out))) (below_size (qW HB.out))); replace HO_6 := Aside0.mk (Kd.R_elder' (qR HO_6.out) (Kd.R_base ho0) hb); replace HO_7 := Aside0.mk (Kd.R_elder' (qR HO_7.out) (Kd.R_base ho0) hb); replace HO274 := Aside0.mk (Kd.R_elder' (qR HO274.out) (Kd.R_base ho0) hb); replace HO278 := Aside0.mk (Kd.R_elder' (qR HO278.out) (Kd.R_base ho0) hb); replace HB := Aside0.mk (below_step (qW HB.out) hb); (try clear hb); (try clear hb2); (try clear hk); (try clear hi); (try clear ho0))); go_upto_region 15 with (first | (go_at_call 12; (with_reducible refine (beam_Slope.calls kj6 _ _ l0 true t271 t272 _ ?side1 ?side2 A18.out).mono ?_); (case side1 => repeat (first | exact (Kd.C_below HR0.out HB.out) | (with_reducible refine Kd.C_alloc ?_ _) | (with_reducible refine Kd.C_drewN ?_ _) | (with_reducible refine Kd.C_drew ?_))); (case side2 => exact HC0.out); rintro e w22 ⟨v273, rfl, ho0, hb⟩; have HO274 := Aside0.mk (Kd.R_lower (Kd.R_new' (Kd.R_new' ho0 (Kd.R_lt (qR HO_6.out))) (Kd.R_lt (qR HO_7.out))) (below_size (qW HB.out))); replace HO_6 := Aside0.mk (Kd.R_elder' (qR HO_6.out) (Kd.R_base ho0) hb); replace HO_7 := Aside0.mk (Kd.R_elder' (qR HO_7.out) (Kd.R_base ho0) hb); replace HB := Aside0.mk (below_step (qW HB.out) hb); (try clear hb); (try clear hb2); (try clear hk); (try clear hi); (try clear ho0); obtain ⟨Ao23, co23, eo23⟩ := Kd.R_slice HO_6.out; subst eo23) | (go_at_call 12; (with_reducible refine (beam_Slope.calls kj6 _ _ x6_1 false t275 t276 _ ?side1 ?side2 A19.out).mono ?_); (case side1 => repeat (first | exact (Kd.R_reads' HO_6.out).2.2 | (with_reducible refine Kd.C_alloc ?_ _) | (with_reducible refine Kd.C_drewN ?_ _) | (with_reducible refine Kd.C_drew ?_))); (case side2 => exact (Kd.R_reads' HO_6.out).2.1); rintro e w24 ⟨v277, rfl, ho0, hb⟩; have HO278 := Aside0.mk (Kd.R_lower (Kd.R_new' (Kd.R_new' (Kd.R_new' ho0 (Kd.R_lt (qR HO_6.out))) (Kd.R_lt (qR HO_7.out))) (Kd.R_lt (qR HO274.out))) (below_size (qW HB.out))); replace HO_6 := Aside0.mk (Kd.R_elder' (qR HO_6.out) (Kd.R_base ho0) hb); replace HO_7 := Aside0.mk (Kd.R_elder' (qR HO_7.out) (Kd.R_base ho0) hb); replace HO274 := Aside0.mk (Kd.R_elder' (qR HO274.out) (Kd.R_base ho0) hb); replace HB := Aside0.mk (below_step (qW HB.out) hb); (try clear hb); (try clear hb2); (try clear hk); (try clear hi); (try clear ho0); obtain ⟨Ao25, co25, eo25⟩ := Kd.R_slice HO_7.out; subst eo25) | (go_at_call 12; (with_reducible refine (beam_Slope.calls kj6 _ _ x7_1 true t279 t280 _ ?side1 ?side2 A20.out).mono ?_); (case side1 => repeat (first | exact (Kd.R_reads' HO_7.out).2.2 | (with_reducible refine Kd.C_alloc ?_ _) | (with_reducible refine Kd.C_drewN ?_ _) | (with_reducible refine Kd.C_drew ?_))); (case side2 => exact (Kd.R_reads' HO_7.out).2.1); rintro e w26 ⟨v281, rfl, ho0, hb⟩; have HO282 := Aside0.mk (Kd.R_lower (Kd.R_new' (Kd.R_new' (Kd.R_new' (Kd.R_new' ho0 (Kd.R_lt (qR HO_6.out))) (Kd.R_lt (qR HO_7.out))) (Kd.R_lt (qR HO274.out))) (Kd.R_lt (qR HO278.out))) (below_size (qW HB.out))); replace HO_6 := Aside0.mk (Kd.R_elder' (qR HO_6.out) (Kd.R_base ho0) hb); replace HO_7 := Aside0.mk (Kd.R_elder' (qR HO_7.out) (Kd.R_base ho0) hb); replace HO274 := Aside0.mk (Kd.R_elder' (qR HO274.out) (Kd.R_base ho0) hb); replace HO278 := Aside0.mk (Kd.R_elder' (qR HO278.out) (Kd.R_base ho0) hb); replace HB := Aside0.mk (below_step (qW HB.out) hb); (try clear hb); (try clear hb2); (try clear hk); (try clear hi); (try clear ho0))))
       (try simp only [Act.put, qa_, qz_, qs_])
       go_cut [87] (fun v87 wc => ∃ (kq : Nat) (x87_20 : Bool), v87 = .bool x87_20 ∧ Aside0 (partitalaw23_BeamMirrors.j2 kq ji5 t260 t271 t272 t275 t276 t279 t280 x87_20 = some r) ∧ Aside0 (kq ≤ kj6) ∧ Aside0 (Kd.R (Kd.int .i64) 3 wc w.heap.size (fun k_ => some k_ ≠ (v277 : Value).ownBlock ∧ some k_ ≠ (v281 : Value).ownBlock) v273 t271) ∧ Aside0 (Kd.R (Kd.int .i64) 3 wc w.heap.size (fun k_ => some k_ ≠ (v273 : Value).ownBlock ∧ some k_ ≠ (v281 : Value).ownBlock) v277 t275) ∧ Aside0 (Kd.R (Kd.int .i64) 3 wc w.heap.size (fun k_ => some k_ ≠ (v273 : Value).ownBlock ∧ some k_ ≠ (v277 : Value).ownBlock) v281 t279) ∧ Aside0 (Below w.heap.size w wc))
       case first =>
        have H := HC21.out
        clear HC21
        by_cases c27 : t272 = 0
        · rw [if_pos c27] at H
          have c27b0 : (t272 == 0) = true := beq_iff_eq.mpr c27
          have c27b1 : (t272 != 0) = false := bne_eq_false_iff_eq.mpr c27
          clear c27
          (first | rw [c27b0] | (simp only [i64_w, i32_w]; rw [c27b0]) | skip)
          by_cases c28 : t276 = 0
          · rw [if_pos c28] at H
            have c28b0 : (t276 == 0) = true := beq_iff_eq.mpr c28
            have c28b1 : (t276 != 0) = false := bne_eq_false_iff_eq.mpr c28
            clear c28
            have H' := Aside0.mk H
            clear H
            obtain ⟨Ao29, co29, eo29⟩ := Kd.R_slice HO278.out
            subst eo29
            obtain ⟨Ao30, co30, eo30⟩ := Kd.R_slice HO274.out
            subst eo30
            go_wp2
            repeat (go_quiet (fail); try go_wp2)
            go_meet
            case rel => exact ⟨_, (((t275.length : Int) != (t271.length : Int))), (by first | rfl | (simp; done) | (simp [*]; done) | (simp [wrap64]; done)), H', ⟨by have := HK1.out; have := HJ6.out; first | omega | exact Nat.le_refl _⟩, ⟨by (with_reducible repeat (first | apply Kd.R_alloc | apply Kd.R_drewN | apply Kd.R_drew)); exact Kd.R_mono HO274.out (fun _ hk => ⟨hk.1.2, hk.2⟩)⟩, ⟨by (with_reducible repeat (first | apply Kd.R_alloc | apply Kd.R_drewN | apply Kd.R_drew)); exact Kd.R_mono HO278.out (fun _ hk => ⟨hk.1.2, hk.2⟩)⟩, ⟨by (with_reducible repeat (first | apply Kd.R_alloc | apply Kd.R_drewN | apply Kd.R_drew)); exact Kd.R_mono HO282.out (fun _ hk => ⟨hk.1.2, hk.2⟩)⟩, ⟨by exact qW HB.out⟩⟩
          · rw [if_neg c28] at H
            have c28b0 : (t276 == 0) = false := beq_eq_false_iff_ne.mpr c28
            have c28b1 : (t276 != 0) = true := bne_iff_ne.mpr c28
            have H' := Aside0.mk H
            clear H
            go_wp2
            repeat (go_quiet (fail); try go_wp2)
            go_meet
            case rel => exact ⟨_, (true), (by first | rfl | (simp; done) | (simp [*]; done) | (simp [wrap64]; done)), H', ⟨by have := HK1.out; have := HJ6.out; first | omega | exact Nat.le_refl _⟩, ⟨by (with_reducible repeat (first | apply Kd.R_alloc | apply Kd.R_drewN | apply Kd.R_drew)); exact Kd.R_mono HO274.out (fun _ hk => ⟨hk.1.2, hk.2⟩)⟩, ⟨by (with_reducible repeat (first | apply Kd.R_alloc | apply Kd.R_drewN | apply Kd.R_drew)); exact Kd.R_mono HO278.out (fun _ hk => ⟨hk.1.2, hk.2⟩)⟩, ⟨by (with_reducible repeat (first | apply Kd.R_alloc | apply Kd.R_drewN | apply Kd.R_drew)); exact Kd.R_mono HO282.out (fun _ hk => ⟨hk.1.2, hk.2⟩)⟩, ⟨by exact qW HB.out⟩⟩
        · rw [if_neg c27] at H
          have c27b0 : (t272 == 0) = false := beq_eq_false_iff_ne.mpr c27
          have c27b1 : (t272 != 0) = true := bne_iff_ne.mpr c27
          (first | rw [c27b0] | (simp only [i64_w, i32_w]; rw [c27b0]) | skip)
          have H' := Aside0.mk H
          clear H
          go_wp2
          repeat (go_quiet (fail); try go_wp2)
          go_meet
          case rel => exact ⟨_, (true), (by first | rfl | (simp; done) | (simp [*]; done) | (simp [wrap64]; done)), H', ⟨by have := HK1.out; have := HJ6.out; first | omega | exact Nat.le_refl _⟩, ⟨by (with_reducible repeat (first | apply Kd.R_alloc | apply Kd.R_drewN | apply Kd.R_drew)); exact Kd.R_mono HO274.out (fun _ hk => ⟨hk.1.2, hk.2⟩)⟩, ⟨by (with_reducible repeat (first | apply Kd.R_alloc | apply Kd.R_drewN | apply Kd.R_drew)); exact Kd.R_mono HO278.out (fun _ hk => ⟨hk.1.2, hk.2⟩)⟩, ⟨by (with_reducible repeat (first | apply Kd.R_alloc | apply Kd.R_drewN | apply Kd.R_drew)); exact Kd.R_mono HO282.out (fun _ hk => ⟨hk.1.2, hk.2⟩)⟩, ⟨by exact qW HB.out⟩⟩
       case rest =>
        clear HC21
        try clear c1
        try clear c2
        try clear p2
        try clear q2
        try clear hx2
        try clear c3
        try clear p6
        try clear c8
        try clear c8b0
        try clear c9
        try clear c10
        try clear c10b0
        try clear c11
        try clear c11b0
        try clear c12
        try clear c12b0
        try clear c13
        try clear c13b0
        try clear c14
        try clear c15
        try clear p26
        try clear q26
        try clear hx26
        try clear c27
        try clear c27b0
        try clear c27b1
        try clear c28
        try clear c28b0
        try clear c28b1
        try clear hx261_0
        try clear hx262_0
        try clear hx263_0
        try clear hx267_0
        try clear p2
        try clear p261
        try clear p262
        try clear p263
        try clear p267
        try clear q261
        try clear q262
        try clear q263
        try clear q267
        obtain ⟨kq, x87_20, rfl, HA, HJ20, HO_9, HO_11, HO_13, HB⟩ := hcut
        cases kq with
        | zero => exact absurd HA.out (by simp [partitalaw23_BeamMirrors.j2])
        | succ kj20 =>
         have H := HA.out
         clear HA
         simp only [partitalaw23_BeamMirrors.j2] at H
         by_cases c31 : x87_20 = true
         · subst c31
           have H1 : (if t260 = true then (some (t272 == t276)) else (some false)) = some r := by rw [if_pos rfl] at H; exact H
           clear H
           have H := H1
           clear H1
           by_cases c32 : t260 = true
           · subst c32
             have H1 : (some (t272 == t276)) = some r := by rw [if_pos rfl] at H; exact H
             clear H
             have H := H1
             clear H1
             obtain rfl := Option.some.inj H
             go_wp2
             repeat (go_quiet (fail); try go_wp2)
             go_ret
             exact ⟨by first | rfl | (simp [errW_none, errW_some] <;> rfl) | (simp only [← hji4, ← hji5]; first | rfl | (simp [errW_none, errW_some] <;> rfl)) | (simp [*, errW_none, errW_some] <;> rfl), by exact qW HB.out⟩
           · replace c32 := Bool.eq_false_iff.mpr c32
             subst c32
             have H1 : (some false) = some r := by rw [if_neg (show ¬ (false = true) by decide)] at H; exact H
             clear H
             have H := H1
             clear H1
             obtain rfl := Option.some.inj H
             go_wp2
             repeat (go_quiet (fail); try go_wp2)
             go_ret
             exact ⟨by first | rfl | (simp [errW_none, errW_some] <;> rfl) | (simp only [← hji4, ← hji5]; first | rfl | (simp [errW_none, errW_some] <;> rfl)) | (simp [*, errW_none, errW_some] <;> rfl), by exact qW HB.out⟩
         · replace c31 := Bool.eq_false_iff.mpr c31
           subst c31
           have H1 : (partitalaw23_BeamMirrors.l1 kj20 ji5 t260 t271 t275 t279 t280 0) = some r := by rw [if_neg (show ¬ (false = true) by decide)] at H; exact H
           clear H
           have H := H1
           clear H1
           have H' := Aside0.mk H
           clear H
           go_wp2
           repeat (go_quiet (fail); try go_wp2)
           go_loopg [15] kj20 (fun kq v15 w' => ∃ (x15_4 : Int), v15 = .int .i64 x15_4 ∧ Aside0 (partitalaw23_BeamMirrors.l1 kq ji5 t260 t271 t275 t279 t280 x15_4 = some r) ∧ Aside0 (kq ≤ kj20) ∧ Aside0 (Kd.R (Kd.int .i64) 3 w' w.heap.size (fun k_ => some k_ ≠ (v277 : Value).ownBlock ∧ some k_ ≠ (v281 : Value).ownBlock) v273 t271) ∧ Aside0 (Kd.R (Kd.int .i64) 3 w' w.heap.size (fun k_ => some k_ ≠ (v273 : Value).ownBlock ∧ some k_ ≠ (v281 : Value).ownBlock) v277 t275) ∧ Aside0 (Kd.R (Kd.int .i64) 3 w' w.heap.size (fun k_ => some k_ ≠ (v273 : Value).ownBlock ∧ some k_ ≠ (v277 : Value).ownBlock) v281 t279) ∧ Aside0 (Below w.heap.size w w'))
           case atStart => exact ⟨(0), (by first | rfl | (simp; done) | (simp [*]; done) | (simp [wrap64]; done)), H', ⟨Nat.le_refl _⟩, ⟨by (with_reducible repeat (first | apply Kd.R_alloc | apply Kd.R_drewN | apply Kd.R_drew)); exact HO_9.out⟩, ⟨by (with_reducible repeat (first | apply Kd.R_alloc | apply Kd.R_drewN | apply Kd.R_drew)); exact HO_11.out⟩, ⟨by (with_reducible repeat (first | apply Kd.R_alloc | apply Kd.R_drewN | apply Kd.R_drew)); exact HO_13.out⟩, ⟨by exact qW HB.out⟩⟩
           case round =>
            clear H'
            try clear c1
            try clear c2
            try clear p2
            try clear q2
            try clear hx2
            try clear c3
            try clear p6
            try clear c8
            try clear c8b0
            try clear c9
            try clear c10
            try clear c10b0
            try clear c11
            try clear c11b0
            try clear c12
            try clear c12b0
            try clear c13
            try clear c13b0
            try clear c14
            try clear c15
            try clear p26
            try clear q26
            try clear hx26
            try clear c27
            try clear c27b0
            try clear c27b1
            try clear c28
            try clear c28b0
            try clear c28b1
            try clear c31
            try clear c32
            try clear hx261_0
            try clear hx262_0
            try clear hx263_0
            try clear hx267_0
            try clear p2
            try clear p26
            try clear p261
            try clear p262
            try clear p263
            try clear p267
            try clear p6
            try clear q2
            try clear q26
            try clear q261
            try clear q262
            try clear q263
            try clear q267
            obtain ⟨x15_4, rfl, HA, HK4, HO_9, HO_11, HO_13, HB⟩ := hrel
            cases gk with
            | zero => exact absurd HA.out (by simp [partitalaw23_BeamMirrors.l1])
            | succ k4 =>
             have H := HA.out
             clear HA
             simp only [partitalaw23_BeamMirrors.l1] at H
             by_cases c33 : x15_4 < (t271.length : Int)
             · rw [if_pos c33] at H
               have c33b0 : decide (x15_4 < (t271.length : Int)) = true := decide_eq_true c33
               clear c33
               by_cases c34 : 0 ≤ x15_4
               · rw [if_pos c34] at H
                 have c34b0 : decide (0 ≤ x15_4) = true := decide_eq_true c34
                 clear c34
                 by_cases c35 : x15_4 < (t275.length : Int)
                 · rw [if_pos c35] at H
                   have c35b0 : decide (x15_4 < (t275.length : Int)) = true := decide_eq_true c35
                   clear c35
                   by_cases c36 : (rd t275 x15_4) = (wrap64 (-(rd t271 x15_4)))
                   · rw [if_pos c36] at H
                     have c36b0 : ((rd t275 x15_4) == (wrap64 (-(rd t271 x15_4)))) = true := beq_iff_eq.mpr c36
                     have c36b1 : ((rd t275 x15_4) != (wrap64 (-(rd t271 x15_4)))) = false := bne_eq_false_iff_eq.mpr c36
                     clear c36
                     by_cases c37 : t280 = 0
                     · rw [if_pos c37] at H
                       have c37b0 : (t280 == 0) = true := beq_iff_eq.mpr c37
                       have c37b1 : (t280 != 0) = false := bne_eq_false_iff_eq.mpr c37
                       clear c37
                       by_cases c38 : (t279.length : Int) = (t271.length : Int)
                       · rw [if_pos c38] at H
                         have c38b0 : ((t279.length : Int) == (t271.length : Int)) = true := beq_iff_eq.mpr c38
                         have c38b1 : ((t279.length : Int) != (t271.length : Int)) = false := bne_eq_false_iff_eq.mpr c38
                         have c38b2 : (t279.length == t271.length) = true := by first | simpa using c38 | (simp at c38 ⊢; omega)
                         clear c38
                         by_cases c39 : x15_4 < (t279.length : Int)
                         · rw [if_pos c39] at H
                           have c39b0 : decide (x15_4 < (t279.length : Int)) = true := decide_eq_true c39
                           clear c39
                           by_cases c40 : (rd t279 x15_4) = (wrap64 ((rd t271 x15_4) + ji5))
                           · rw [if_pos c40] at H
                             have c40b0 : ((rd t279 x15_4) == (wrap64 ((rd t271 x15_4) + ji5))) = true := beq_iff_eq.mpr c40
                             have c40b1 : ((rd t279 x15_4) != (wrap64 ((rd t271 x15_4) + ji5))) = false := bne_eq_false_iff_eq.mpr c40
                             clear c40
                             have H' := Aside0.mk H
                             clear H
                             obtain ⟨Ao41, co41, eo41⟩ := Kd.R_slice HO_9.out
                             subst eo41
                             obtain ⟨Ao42, co42, eo42⟩ := Kd.R_slice HO_11.out
                             subst eo42
                             have p283 : 0 ≤ (x15_4 : Int) := of_decide_eq_true (by first | (with_reducible assumption) | assumption)
                             have q283 : x15_4 < (t275.length : Int) := of_decide_eq_true (by first | (with_reducible assumption) | assumption)
                             obtain ⟨ad283, e283, hx283_0⟩ := Kd.at_int (Kd.R_reads' HO_11.out).2.2 x15_4 p283 q283
                             cases e283
                             replace p283 := eq_true p283
                             replace q283 := eq_true q283
                             have p284 : 0 ≤ (x15_4 : Int) := of_decide_eq_true (by first | (with_reducible assumption) | assumption)
                             have q284 : x15_4 < (t271.length : Int) := of_decide_eq_true (by first | (with_reducible assumption) | assumption)
                             obtain ⟨ad284, e284, hx284_0⟩ := Kd.at_int (Kd.R_reads' HO_9.out).2.2 x15_4 p284 q284
                             cases e284
                             replace p284 := eq_true p284
                             replace q284 := eq_true q284
                             obtain ⟨Ao43, co43, eo43⟩ := Kd.R_slice HO_13.out
                             subst eo43
                             have p285 : 0 ≤ (x15_4 : Int) := of_decide_eq_true (by first | (with_reducible assumption) | assumption)
                             have q285 : x15_4 < (t279.length : Int) := of_decide_eq_true (by first | (with_reducible assumption) | assumption)
                             obtain ⟨ad285, e285, hx285_0⟩ := Kd.at_int (Kd.R_reads' HO_13.out).2.2 x15_4 p285 q285
                             cases e285
                             replace p285 := eq_true p285
                             replace q285 := eq_true q285
                             have p286 : 0 ≤ (x15_4 : Int) := of_decide_eq_true (by first | (with_reducible assumption) | assumption)
                             have q286 : x15_4 < (t271.length : Int) := of_decide_eq_true (by first | (with_reducible assumption) | assumption)
                             obtain ⟨ad286, e286, hx286_0⟩ := Kd.at_int (Kd.R_reads' HO_9.out).2.2 x15_4 p286 q286
                             obtain rfl : ad284 = ad286 := (by injection e286)
                             replace p286 := eq_true p286
                             replace q286 := eq_true q286
                             go_wp2
                             repeat (go_quiet (fail); try go_wp2)
                             go_roundg k4
                             case measure => have := HK1.out; have := HJ6.out; have := HJ20.out; have := HK4.out; omega
                             case rel => exact ⟨(wrap64 (x15_4 + 1)), (by first | rfl | (simp; done) | (simp [*]; done) | (simp [wrap64]; done)), H', ⟨by have := HK1.out; have := HJ6.out; have := HJ20.out; have := HK4.out; omega⟩, ⟨by (with_reducible repeat (first | apply Kd.R_alloc | apply Kd.R_drewN | apply Kd.R_drew)); exact HO_9.out⟩, ⟨by (with_reducible repeat (first | apply Kd.R_alloc | apply Kd.R_drewN | apply Kd.R_drew)); exact HO_11.out⟩, ⟨by (with_reducible repeat (first | apply Kd.R_alloc | apply Kd.R_drewN | apply Kd.R_drew)); exact HO_13.out⟩, ⟨by exact qW HB.out⟩⟩
                           · rw [if_neg c40] at H
                             have c40b0 : ((rd t279 x15_4) == (wrap64 ((rd t271 x15_4) + ji5))) = false := beq_eq_false_iff_ne.mpr c40
                             have c40b1 : ((rd t279 x15_4) != (wrap64 ((rd t271 x15_4) + ji5))) = true := bne_iff_ne.mpr c40
                             obtain rfl := Option.some.inj H
                             obtain ⟨Ao44, co44, eo44⟩ := Kd.R_slice HO_9.out
                             subst eo44
                             obtain ⟨Ao45, co45, eo45⟩ := Kd.R_slice HO_11.out
                             subst eo45
                             have p283 : 0 ≤ (x15_4 : Int) := of_decide_eq_true (by first | (with_reducible assumption) | assumption)
                             have q283 : x15_4 < (t275.length : Int) := of_decide_eq_true (by first | (with_reducible assumption) | assumption)
                             obtain ⟨ad283, e283, hx283_0⟩ := Kd.at_int (Kd.R_reads' HO_11.out).2.2 x15_4 p283 q283
                             cases e283
                             replace p283 := eq_true p283
                             replace q283 := eq_true q283
                             have p284 : 0 ≤ (x15_4 : Int) := of_decide_eq_true (by first | (with_reducible assumption) | assumption)
                             have q284 : x15_4 < (t271.length : Int) := of_decide_eq_true (by first | (with_reducible assumption) | assumption)
                             obtain ⟨ad284, e284, hx284_0⟩ := Kd.at_int (Kd.R_reads' HO_9.out).2.2 x15_4 p284 q284
                             cases e284
                             replace p284 := eq_true p284
                             replace q284 := eq_true q284
                             obtain ⟨Ao46, co46, eo46⟩ := Kd.R_slice HO_13.out
                             subst eo46
                             have p285 : 0 ≤ (x15_4 : Int) := of_decide_eq_true (by first | (with_reducible assumption) | assumption)
                             have q285 : x15_4 < (t279.length : Int) := of_decide_eq_true (by first | (with_reducible assumption) | assumption)
                             obtain ⟨ad285, e285, hx285_0⟩ := Kd.at_int (Kd.R_reads' HO_13.out).2.2 x15_4 p285 q285
                             cases e285
                             replace p285 := eq_true p285
                             replace q285 := eq_true q285
                             have p286 : 0 ≤ (x15_4 : Int) := of_decide_eq_true (by first | (with_reducible assumption) | assumption)
                             have q286 : x15_4 < (t271.length : Int) := of_decide_eq_true (by first | (with_reducible assumption) | assumption)
                             obtain ⟨ad286, e286, hx286_0⟩ := Kd.at_int (Kd.R_reads' HO_9.out).2.2 x15_4 p286 q286
                             obtain rfl : ad284 = ad286 := (by injection e286)
                             replace p286 := eq_true p286
                             replace q286 := eq_true q286
                             go_wp2
                             repeat (go_quiet (fail); try go_wp2)
                             go_ret
                             exact ⟨by first | rfl | (simp [errW_none, errW_some] <;> rfl) | (simp only [← hji4, ← hji5]; first | rfl | (simp [errW_none, errW_some] <;> rfl)) | (simp [*, errW_none, errW_some] <;> rfl), by exact qW HB.out⟩
                         · rw [if_neg c39] at H
                           exact absurd H (by simp)
                       · rw [if_neg c38] at H
                         have c38b0 : ((t279.length : Int) == (t271.length : Int)) = false := beq_eq_false_iff_ne.mpr c38
                         have c38b1 : ((t279.length : Int) != (t271.length : Int)) = true := bne_iff_ne.mpr c38
                         have c38b2 : (t279.length == t271.length) = false := by first | simpa using c38 | (simp at c38 ⊢; omega)
                         obtain rfl := Option.some.inj H
                         obtain ⟨Ao47, co47, eo47⟩ := Kd.R_slice HO_9.out
                         subst eo47
                         obtain ⟨Ao48, co48, eo48⟩ := Kd.R_slice HO_11.out
                         subst eo48
                         have p283 : 0 ≤ (x15_4 : Int) := of_decide_eq_true (by first | (with_reducible assumption) | assumption)
                         have q283 : x15_4 < (t275.length : Int) := of_decide_eq_true (by first | (with_reducible assumption) | assumption)
                         obtain ⟨ad283, e283, hx283_0⟩ := Kd.at_int (Kd.R_reads' HO_11.out).2.2 x15_4 p283 q283
                         cases e283
                         replace p283 := eq_true p283
                         replace q283 := eq_true q283
                         have p284 : 0 ≤ (x15_4 : Int) := of_decide_eq_true (by first | (with_reducible assumption) | assumption)
                         have q284 : x15_4 < (t271.length : Int) := of_decide_eq_true (by first | (with_reducible assumption) | assumption)
                         obtain ⟨ad284, e284, hx284_0⟩ := Kd.at_int (Kd.R_reads' HO_9.out).2.2 x15_4 p284 q284
                         cases e284
                         replace p284 := eq_true p284
                         replace q284 := eq_true q284
                         obtain ⟨Ao49, co49, eo49⟩ := Kd.R_slice HO_13.out
                         subst eo49
                         go_wp2
                         repeat (go_quiet (fail); try go_wp2)
                         go_ret
                         exact ⟨by first | rfl | (simp [errW_none, errW_some] <;> rfl) | (simp only [← hji4, ← hji5]; first | rfl | (simp [errW_none, errW_some] <;> rfl)) | (simp [*, errW_none, errW_some] <;> rfl), by exact qW HB.out⟩
                     · rw [if_neg c37] at H
                       have c37b0 : (t280 == 0) = false := beq_eq_false_iff_ne.mpr c37
                       have c37b1 : (t280 != 0) = true := bne_iff_ne.mpr c37
                       have H' := Aside0.mk H
                       clear H
                       obtain ⟨Ao50, co50, eo50⟩ := Kd.R_slice HO_9.out
                       subst eo50
                       obtain ⟨Ao51, co51, eo51⟩ := Kd.R_slice HO_11.out
                       subst eo51
                       have p283 : 0 ≤ (x15_4 : Int) := of_decide_eq_true (by first | (with_reducible assumption) | assumption)
                       have q283 : x15_4 < (t275.length : Int) := of_decide_eq_true (by first | (with_reducible assumption) | assumption)
                       obtain ⟨ad283, e283, hx283_0⟩ := Kd.at_int (Kd.R_reads' HO_11.out).2.2 x15_4 p283 q283
                       cases e283
                       replace p283 := eq_true p283
                       replace q283 := eq_true q283
                       have p284 : 0 ≤ (x15_4 : Int) := of_decide_eq_true (by first | (with_reducible assumption) | assumption)
                       have q284 : x15_4 < (t271.length : Int) := of_decide_eq_true (by first | (with_reducible assumption) | assumption)
                       obtain ⟨ad284, e284, hx284_0⟩ := Kd.at_int (Kd.R_reads' HO_9.out).2.2 x15_4 p284 q284
                       cases e284
                       replace p284 := eq_true p284
                       replace q284 := eq_true q284
                       go_wp2
                       repeat (go_quiet (fail); try go_wp2)
                       go_roundg k4
                       case measure => have := HK1.out; have := HJ6.out; have := HJ20.out; have := HK4.out; omega
                       case rel => exact ⟨(wrap64 (x15_4 + 1)), (by first | rfl | (simp; done) | (simp [*]; done) | (simp [wrap64]; done)), H', ⟨by have := HK1.out; have := HJ6.out; have := HJ20.out; have := HK4.out; omega⟩, ⟨by (with_reducible repeat (first | apply Kd.R_alloc | apply Kd.R_drewN | apply Kd.R_drew)); exact HO_9.out⟩, ⟨by (with_reducible repeat (first | apply Kd.R_alloc | apply Kd.R_drewN | apply Kd.R_drew)); exact HO_11.out⟩, ⟨by (with_reducible repeat (first | apply Kd.R_alloc | apply Kd.R_drewN | apply Kd.R_drew)); exact HO_13.out⟩, ⟨by exact qW HB.out⟩⟩
                   · rw [if_neg c36] at H
                     have c36b0 : ((rd t275 x15_4) == (wrap64 (-(rd t271 x15_4)))) = false := beq_eq_false_iff_ne.mpr c36
                     have c36b1 : ((rd t275 x15_4) != (wrap64 (-(rd t271 x15_4)))) = true := bne_iff_ne.mpr c36
                     obtain rfl := Option.some.inj H
                     obtain ⟨Ao52, co52, eo52⟩ := Kd.R_slice HO_9.out
                     subst eo52
                     obtain ⟨Ao53, co53, eo53⟩ := Kd.R_slice HO_11.out
                     subst eo53
                     have p283 : 0 ≤ (x15_4 : Int) := of_decide_eq_true (by first | (with_reducible assumption) | assumption)
                     have q283 : x15_4 < (t275.length : Int) := of_decide_eq_true (by first | (with_reducible assumption) | assumption)
                     obtain ⟨ad283, e283, hx283_0⟩ := Kd.at_int (Kd.R_reads' HO_11.out).2.2 x15_4 p283 q283
                     cases e283
                     replace p283 := eq_true p283
                     replace q283 := eq_true q283
                     have p284 : 0 ≤ (x15_4 : Int) := of_decide_eq_true (by first | (with_reducible assumption) | assumption)
                     have q284 : x15_4 < (t271.length : Int) := of_decide_eq_true (by first | (with_reducible assumption) | assumption)
                     obtain ⟨ad284, e284, hx284_0⟩ := Kd.at_int (Kd.R_reads' HO_9.out).2.2 x15_4 p284 q284
                     cases e284
                     replace p284 := eq_true p284
                     replace q284 := eq_true q284
                     go_wp2
                     repeat (go_quiet (fail); try go_wp2)
                     go_ret
                     exact ⟨by first | rfl | (simp [errW_none, errW_some] <;> rfl) | (simp only [← hji4, ← hji5]; first | rfl | (simp [errW_none, errW_some] <;> rfl)) | (simp [*, errW_none, errW_some] <;> rfl), by exact qW HB.out⟩
                 · rw [if_neg c35] at H
                   exact absurd H (by simp)
               · rw [if_neg c34] at H
                 exact absurd H (by simp)
             · rw [if_neg c33] at H
               have c33b0 : decide (x15_4 < (t271.length : Int)) = false := decide_eq_false c33
               clear c33
               obtain rfl := Option.some.inj H
               obtain ⟨Ao54, co54, eo54⟩ := Kd.R_slice HO_9.out
               subst eo54
               go_wp2
               repeat (go_quiet (fail); try go_wp2)
               go_ret
               exact ⟨by first | rfl | (simp [errW_none, errW_some] <;> rfl) | (simp only [← hji4, ← hji5]; first | rfl | (simp [errW_none, errW_some] <;> rfl)) | (simp [*, errW_none, errW_some] <;> rfl), by exact qW HB.out⟩

end Go.Proofs.YtocjbedacnlaaaaGreatDoor.Q
