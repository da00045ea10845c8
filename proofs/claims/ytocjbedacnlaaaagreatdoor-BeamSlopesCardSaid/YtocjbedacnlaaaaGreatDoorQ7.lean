-- Written by a program of this session (myprint.py), function by function.
import Derived.Test.YtocjbedacnlaaaaGreatDoorQ0
import Derived.Test.YtocjbedacnlaaaaGreatDoorQ3
import Derived.Test.YtocjbedacnlaaaaGreatDoorQ6
import Derived.Test.YtocjbedacnlaaaaGreatDoorHandA
import Derived.Test.YtocjbedacnlaaaaGreatDoorSmallMost
namespace Go.Proofs.YtocjbedacnlaaaaGreatDoor.Q
open Go.RowKit Go.Proofs.YtocjbedacnlaaaaGreatDoorW.PrintWords Go.Proofs.YtocjbedacnlaaaaGreatDoorW.PrintLast Go.Proofs.YtocjbedacnlaaaaGreatDoorW.PrintMore
attribute [local go_sem] max2_int min2_int max_two min_two max_three min_three max_four min_four   -- for this text's walks alone
set_option linter.unusedVariables false
set_option linter.unusedSimpArgs false

/-! ### beam_over: function 25 -/
mutual
def beam_over.l0 : Nat → List Int → Int → Int → List Int → Int → Int → Option (List Int)
 | 0, _, _, _, _, _, _ => none
 | k + 1, x0, x3, x4, x5, x28, x29 => if x29 < x28 then ((beam_down.f (wrap64 (x4 * x29)) x3).bind fun t164 => (if 0 ≤ x29 then (if x29 < (x5.length : Int) then (beam_over.l0 k x0 x3 x4 (x5.set (x29 : Int).toNat t164) x28 (wrap64 (x29 + 1))) else (none)) else (none))) else (if 0 < (x0.length : Int) then (if 0 < (x5.length : Int) then (beam_over.l1 k x5 (wrap64 ((wrap64 ((rd x0 0) + 5)) - (rd x5 0))) x0 (x0.length : Int) 0) else (none)) else (none))
def beam_over.l1 : Nat → List Int → Int → List Int → Int → Int → Option (List Int)
 | 0, _, _, _, _, _ => none
 | k + 1, x5, x7, x49, x50, x51 => if x51 < x50 then (if 0 ≤ x51 then (if x51 < (x49.length : Int) then (if x51 < (x5.length : Int) then (beam_over.l1 k x5 (mx x7 (wrap64 ((wrap64 ((rd x49 x51) + 5)) - (rd x5 x51)))) x49 x50 (wrap64 (x51 + 1))) else (none)) else (none)) else (none)) else (beam_over.l2 k x5 x7 (x5.length : Int) 0)
def beam_over.l2 : Nat → List Int → Int → Int → Int → Option (List Int)
 | 0, _, _, _, _ => none
 | k + 1, x5, x7, x67, x68 => if x68 < x67 then (if 0 ≤ x68 then (if x68 < (x5.length : Int) then (beam_over.l2 k (x5.set (x68 : Int).toNat (wrap64 ((rd x5 x68) + x7))) x7 x67 (wrap64 (x68 + 1))) else (none)) else (none)) else (some x5)
end
def beam_over.f (k : Nat) (l0 : List Int) : Option (List Int) := if 0 ≤ (wrap64 ((l0.length : Int) - 1)) then (if (wrap64 ((l0.length : Int) - 1)) < (l0.length : Int) then (if 0 < (l0.length : Int) then (if 0 ≤ (l0.length : Int) then (if ((l0.length : Int) : Int).toNat ≤ 35184372088832 then (beam_over.l0 k l0 (wrap64 ((l0.length : Int) - 1)) (mn (mx (wrap64 ((rd l0 (wrap64 ((l0.length : Int) - 1))) - (rd l0 0))) (-2)) 2) (List.replicate ((l0.length : Int) : Int).toNat 0) (l0.length : Int) 0) else (none)) else (none)) else (none)) else (none)) else (none)
theorem beam_over.mono_l : ∀ k, (∀ y0 y1 y2 y3 y4 y5, LeO (beam_over.l0 k y0 y1 y2 y3 y4 y5) (beam_over.l0 (k + 1) y0 y1 y2 y3 y4 y5)) ∧ (∀ y0 y1 y2 y3 y4, LeO (beam_over.l1 k y0 y1 y2 y3 y4) (beam_over.l1 (k + 1) y0 y1 y2 y3 y4)) ∧ (∀ y0 y1 y2 y3, LeO (beam_over.l2 k y0 y1 y2 y3) (beam_over.l2 (k + 1) y0 y1 y2 y3))
 | 0 => ⟨fun _ _ _ _ _ _ r h => by simp [beam_over.l0] at h, fun _ _ _ _ _ r h => by simp [beam_over.l1] at h, fun _ _ _ _ r h => by simp [beam_over.l2] at h⟩
 | k + 1 => by
  obtain ⟨ih0, ih1, ih2⟩ := beam_over.mono_l k
  refine ⟨?_, ?_, ?_⟩
  · intro y0 y1 y2 y3 y4 y5
    unfold beam_over.l0
    repeat' first
    | (with_reducible exact ih0 _ _ _ _ _ _)
    | (with_reducible exact ih1 _ _ _ _ _)
    | (with_reducible exact ih2 _ _ _ _)
    | (with_reducible exact LeO.refl _)
    | (with_reducible exact LeO.none _)
    | (with_reducible refine LeO.ite ?_ ?_)
    | (with_reducible refine LeO.bind ?_ (fun _ => ?_))
    | exact ih0 _ _ _ _ _ _
    | exact ih1 _ _ _ _ _
    | exact ih2 _ _ _ _
    | exact LeO.none _
    | refine LeO.ite ?_ ?_
    | refine LeO.bind ?_ (fun _ => ?_)
  · intro y0 y1 y2 y3 y4
    unfold beam_over.l1
    repeat' first
    | (with_reducible exact ih0 _ _ _ _ _ _)
    | (with_reducible exact ih1 _ _ _ _ _)
    | (with_reducible exact ih2 _ _ _ _)
    | (with_reducible exact LeO.refl _)
    | (with_reducible exact LeO.none _)
    | (with_reducible refine LeO.ite ?_ ?_)
    | (with_reducible refine LeO.bind ?_ (fun _ => ?_))
    | exact ih0 _ _ _ _ _ _
    | exact ih1 _ _ _ _ _
    | exact ih2 _ _ _ _
    | exact LeO.none _
    | refine LeO.ite ?_ ?_
    | refine LeO.bind ?_ (fun _ => ?_)
  · intro y0 y1 y2 y3
    unfold beam_over.l2
    repeat' first
    | (with_reducible exact ih0 _ _ _ _ _ _)
    | (with_reducible exact ih1 _ _ _ _ _)
    | (with_reducible exact ih2 _ _ _ _)
    | (with_reducible exact LeO.refl _)
    | (with_reducible exact LeO.none _)
    | (with_reducible refine LeO.ite ?_ ?_)
    | (with_reducible refine LeO.bind ?_ (fun _ => ?_))
    | exact ih0 _ _ _ _ _ _
    | exact ih1 _ _ _ _ _
    | exact ih2 _ _ _ _
    | exact LeO.none _
    | refine LeO.ite ?_ ?_
    | refine LeO.bind ?_ (fun _ => ?_)
theorem beam_over.mono : ∀ a0 k, LeO (beam_over.f k a0) (beam_over.f (k + 1) a0) := by
 intro a0 k
 obtain ⟨ih0, ih1, ih2⟩ := beam_over.mono_l k
 unfold beam_over.f
 repeat' first
  | (with_reducible exact ih0 _ _ _ _ _ _)
  | (with_reducible exact ih1 _ _ _ _ _)
  | (with_reducible exact ih2 _ _ _ _)
  | (with_reducible exact LeO.refl _)
  | (with_reducible exact LeO.none _)
  | (with_reducible refine LeO.ite ?_ ?_)
  | (with_reducible refine LeO.bind ?_ (fun _ => ?_))
  | exact ih0 _ _ _ _ _ _
  | exact ih1 _ _ _ _ _
  | exact ih2 _ _ _ _
  | exact LeO.none _
  | refine LeO.ite ?_ ?_
  | refine LeO.bind ?_ (fun _ => ?_)
set_option maxHeartbeats 8000000 in
set_option maxRecDepth 100000 in
theorem beam_over.calls (k : Nat) (A0 : Option Addr) (c0 : Nat) (l0 : List Int) (r : List Int) (w : World) (hr0 : Kd.C (Kd.int .i64) w A0 l0.length l0) (hc0 : l0.length ≤ c0) (h : beam_over.f k l0 = some r) :
 Calls Tryz.prog 25 #[.slice A0 l0.length c0] w fun e w' => ∃ v0_ : Value, e = .returned (v0_) ∧ Kd.R (Kd.int .i64) 3 w' w.heap.size (fun _ => True) v0_ r ∧ Below w.heap.size w w' := by
 have HR0 := Aside0.mk hr0
 have HC0 := Aside0.mk hc0
 clear hr0 hc0
 have HB := Aside0.mk (Below.refl w.heap.size w)
 have H : (if 0 ≤ (wrap64 ((l0.length : Int) - 1)) then (if (wrap64 ((l0.length : Int) - 1)) < (l0.length : Int) then (if 0 < (l0.length : Int) then (if 0 ≤ (l0.length : Int) then (if ((l0.length : Int) : Int).toNat ≤ 35184372088832 then (beam_over.l0 k l0 (wrap64 ((l0.length : Int) - 1)) (mn (mx (wrap64 ((rd l0 (wrap64 ((l0.length : Int) - 1))) - (rd l0 0))) (-2)) 2) (List.replicate ((l0.length : Int) : Int).toNat 0) (l0.length : Int) 0) else (none)) else (none)) else (none)) else (none)) else (none)) = some r := h
 clear h
 obtain ⟨ji2, hji2⟩ : ∃ j_ : Int, (wrap64 ((l0.length : Int) - 1)) = j_ := ⟨_, rfl⟩
 replace H : (if 0 ≤ (ji2) then (if (ji2) < (l0.length : Int) then (if 0 < (l0.length : Int) then (if 0 ≤ (l0.length : Int) then (if ((l0.length : Int) : Int).toNat ≤ 35184372088832 then (beam_over.l0 k l0 ji2 (mn (mx (wrap64 ((rd l0 (ji2)) - (rd l0 0))) (-2)) 2) (List.replicate ((l0.length : Int) : Int).toNat 0) (l0.length : Int) 0) else (none)) else (none)) else (none)) else (none)) else (none)) = some r := by first | (rw [hji2] at H; exact H) | (simp only [hji2] at H ⊢; exact H)
 have hji2w : (IntKind.i64.wrap ((l0.length : Int) - 1)) = ji2 := (i64_w _).trans hji2
 by_cases c3 : 0 ≤ (ji2)
 · rw [if_pos c3] at H
   have c3b0 : decide (0 ≤ (ji2)) = true := decide_eq_true c3
   clear c3
   by_cases c4 : (ji2) < (l0.length : Int)
   · rw [if_pos c4] at H
     have c4b0 : decide ((ji2) < (l0.length : Int)) = true := decide_eq_true c4
     clear c4
     by_cases c5 : 0 < (l0.length : Int)
     · rw [if_pos c5] at H
       have c5b0 : decide (0 < (l0.length : Int)) = true := decide_eq_true c5
       have c5b1 : decide (0 < l0.length) = true := decide_eq_true (by omega)
       clear c5
       obtain ⟨ji6, hji6⟩ : ∃ j_ : Int, (mx (wrap64 ((rd l0 (ji2)) - (rd l0 0))) (-2)) = j_ := ⟨_, rfl⟩
       replace H : (if 0 ≤ (l0.length : Int) then (if ((l0.length : Int) : Int).toNat ≤ 35184372088832 then (beam_over.l0 k l0 ji2 (mn (ji6) 2) (List.replicate ((l0.length : Int) : Int).toNat 0) (l0.length : Int) 0) else (none)) else (none)) = some r := by first | (rw [hji6] at H; exact H) | (simp only [hji6] at H ⊢; exact H)
       have hji6_ : (if (wrap64 ((rd l0 (ji2)) - (rd l0 0))) < (-2) then (-2) else (wrap64 ((rd l0 (ji2)) - (rd l0 0)))) = ji6 := hji6
       obtain ⟨ji7, hji7⟩ : ∃ j_ : Int, (mn (ji6) 2) = j_ := ⟨_, rfl⟩
       replace H : (if 0 ≤ (l0.length : Int) then (if ((l0.length : Int) : Int).toNat ≤ 35184372088832 then (beam_over.l0 k l0 ji2 ji7 (List.replicate ((l0.length : Int) : Int).toNat 0) (l0.length : Int) 0) else (none)) else (none)) = some r := by first | (rw [hji7] at H; exact H) | (simp only [hji7] at H ⊢; exact H)
       have hji7_ : (if 2 < (ji6) then 2 else (ji6)) = ji7 := hji7
       by_cases c8 : 0 ≤ (l0.length : Int)
       · rw [if_pos c8] at H
         have c8b0 := eq_true c8
         have c8b1 : decide (0 ≤ (l0.length : Int)) = true := decide_eq_true c8
         clear c8
         by_cases c9 : ((l0.length : Int) : Int).toNat ≤ 35184372088832
         · rw [if_pos c9] at H
           have c9b0 := eq_true c9
           have c9b1 : decide (((l0.length : Int) : Int).toNat ≤ 35184372088832) = true := decide_eq_true c9
           clear c9
           obtain ⟨y161, hy161⟩ : ∃ y_ : List Int, y_ = (List.replicate ((l0.length : Int) : Int).toNat 0) := ⟨_, rfl⟩
           replace H : (beam_over.l0 k l0 ji2 ji7 y161 (l0.length : Int) 0) = some r := by first | (rw [hy161]; with_reducible exact H) | (have H2_ := (Option.bind_some _ _).symm.trans H; rw [hy161]; with_reducible exact H2_) | (have H2_ := (Option.bind_some _ _).symm.trans H; with_reducible exact H2_) | with_reducible exact H | (rw [hy161]; exact H) | exact H
           have Ny161 := Aside0.mk hy161
           clear hy161
           have H' := Aside0.mk H
           clear H
           have p159 : 0 ≤ ((ji2) : Int) := of_decide_eq_true (by first | (with_reducible assumption) | assumption)
           have q159 : (ji2) < (l0.length : Int) := of_decide_eq_true (by first | (with_reducible assumption) | assumption)
           obtain ⟨ad159, e159, hx159_0⟩ := Kd.at_int HR0.out (ji2) p159 q159
           cases e159
           replace p159 := eq_true p159
           replace q159 := eq_true q159
           have p160 : 0 ≤ (0 : Int) := (by omega)
           have q160 : 0 < (l0.length : Int) := of_decide_eq_true (by first | (with_reducible assumption) | assumption)
           obtain ⟨ad160, e160, hx160_0⟩ := Kd.at_int HR0.out 0 p160 q160
           obtain rfl : ad159 = ad160 := (by injection e160)
           have qi160 : (0 < l0.length) = True := eq_true (by omega)
           (try rw [show ((0 : Int)).toNat = 0 from rfl] at hx160_0)
           (try rw [Addr.add_zero'] at hx160_0)
           replace p160 := eq_true p160
           replace q160 := eq_true q160
           go_enter Tryz.func25, Tryz.ntmps25
           go_wp2_with (first | ((with_reducible refine gate_dst (N := 26) rfl ?_); refine Kd.R_make (Kd.int .i64) _ 3 rfl (N := 26) rfl 22 _ _ rfl (l0.length : Int) rfl rfl Tryz.underlying22 (.int .i64 0) 8 info3 rfl (by decide) (by omega) 0 (ok := fun _ => True) (okp := fun _ => True) rfl (fun _ hk => hk) trivial (of_decide_eq_true (by first | (with_reducible assumption) | assumption)) (Nat.le_trans (Nat.mul_le_mul_right _ (of_decide_eq_true (by first | (with_reducible assumption) | assumption) : (l0.length : Int).toNat ≤ 35184372088832)) (by omega)) (Below.refl _ _) (Nat.le_refl _) ?_; intro v162 w10 ho11 hb hg_ hnew_; clear hg_ hnew_; (first | rw [← Ny161.out] at ho11 | (simp only [Int.reduceToNat] at ho11; rw [← Ny161.out] at ho11)); have HO163 := Aside0.mk (Kd.R_lower ho11 (below_size (qW HB.out))); replace HB := Aside0.mk (below_step (qW HB.out) hb); clear hb ho11))
           repeat (go_quiet (first | ((with_reducible refine gate_dst (N := 26) rfl ?_); refine Kd.R_make (Kd.int .i64) _ 3 rfl (N := 26) rfl 22 _ _ rfl (l0.length : Int) rfl rfl Tryz.underlying22 (.int .i64 0) 8 info3 rfl (by decide) (by omega) 0 (ok := fun _ => True) (okp := fun _ => True) rfl (fun _ hk => hk) trivial (of_decide_eq_true (by first | (with_reducible assumption) | assumption)) (Nat.le_trans (Nat.mul_le_mul_right _ (of_decide_eq_true (by first | (with_reducible assumption) | assumption) : (l0.length : Int).toNat ≤ 35184372088832)) (by omega)) (Below.refl _ _) (Nat.le_refl _) ?_; intro v162 w10 ho11 hb hg_ hnew_; clear hg_ hnew_; (first | rw [← Ny161.out] at ho11 | (simp only [Int.reduceToNat] at ho11; rw [← Ny161.out] at ho11)); have HO163 := Aside0.mk (Kd.R_lower ho11 (below_size (qW HB.out))); replace HB := Aside0.mk (below_step (qW HB.out) hb); clear hb ho11)); try go_wp2_with (first | ((with_reducible refine gate_dst (N := 26) rfl ?_); refine Kd.R_make (Kd.int .i64) _ 3 rfl (N := 26) rfl 22 _ _ rfl (l0.length : Int) rfl rfl Tryz.underlying22 (.int .i64 0) 8 info3 rfl (by decide) (by omega) 0 (ok := fun _ => True) (okp := fun _ => True) rfl (fun _ hk => hk) trivial (of_decide_eq_true (by first | (with_reducible assumption) | assumption)) (Nat.le_trans (Nat.mul_le_mul_right _ (of_decide_eq_true (by first | (with_reducible assumption) | assumption) : (l0.length : Int).toNat ≤ 35184372088832)) (by omega)) (Below.refl _ _) (Nat.le_refl _) ?_; intro v162 w10 ho11 hb hg_ hnew_; clear hg_ hnew_; (first | rw [← Ny161.out] at ho11 | (simp only [Int.reduceToNat] at ho11; rw [← Ny161.out] at ho11)); have HO163 := Aside0.mk (Kd.R_lower ho11 (below_size (qW HB.out))); replace HB := Aside0.mk (below_step (qW HB.out) hb); clear hb ho11)))
           go_loopg [29] k (fun kq v29 w' => ∃ (x5_1 : List Int) (x29_1 : Int), v29 = .int .i64 x29_1 ∧ Aside0 (beam_over.l0 kq l0 ji2 ji7 x5_1 (l0.length : Int) x29_1 = some r) ∧ Aside0 (kq ≤ k) ∧ Aside0 (Kd.R (Kd.int .i64) 3 w' w.heap.size (fun _ => True) v162 x5_1) ∧ Aside0 (Below w.heap.size w w'))
           case atStart => exact ⟨(y161), (0), (by first | rfl | (simp; done) | (simp [*]; done) | (simp [wrap64]; done)), H', ⟨Nat.le_refl _⟩, ⟨by (with_reducible repeat (first | apply Kd.R_alloc | apply Kd.R_drewN | apply Kd.R_drew)); exact HO163.out⟩, ⟨by exact qW HB.out⟩⟩
           case round =>
            clear H'
            try clear p1
            try clear q1
            try clear hx1
            try clear qi1
            try clear c2
            try clear p2
            try clear c3
            try clear c3b0
            try clear c4
            try clear c4b0
            try clear c5
            try clear c5b0
            try clear c5b1
            try clear p6
            try clear c8
            try clear c8b0
            try clear c8b1
            try clear c9
            try clear c9b0
            try clear c9b1
            try clear hx159_0
            try clear hx160_0
            try clear p159
            try clear p160
            try clear q159
            try clear q160
            obtain ⟨x5_1, x29_1, rfl, HA, HK1, HO_5, HB⟩ := hrel
            cases gk with
            | zero => exact absurd HA.out (by simp [beam_over.l0])
            | succ k1 =>
             have H := HA.out
             clear HA
             simp only [beam_over.l0] at H
             by_cases c12 : x29_1 < (l0.length : Int)
             · rw [if_pos c12] at H
               have c12b0 : decide (x29_1 < (l0.length : Int)) = true := decide_eq_true c12
               clear c12
               replace H := Option.bind_eq_some_iff.mp H
               obtain ⟨t164, A130, H⟩ := H
               replace H : (if 0 ≤ x29_1 then (if x29_1 < (x5_1.length : Int) then (beam_over.l0 k1 l0 ji2 ji7 (x5_1.set (x29_1 : Int).toNat t164) (l0.length : Int) (wrap64 (x29_1 + 1))) else (none)) else (none)) = some r := H
               have A13 := Aside0.mk A130
               clear A130
               by_cases c14 : 0 ≤ x29_1
               · rw [if_pos c14] at H
                 have c14b0 : decide (0 ≤ x29_1) = true := decide_eq_true c14
                 clear c14
                 by_cases c15 : x29_1 < (x5_1.length : Int)
                 · rw [if_pos c15] at H
                   have c15b0 : decide (x29_1 < (x5_1.length : Int)) = true := decide_eq_true c15
                   clear c15
                   obtain ⟨y165, hy165⟩ : ∃ y_ : List Int, y_ = (x5_1.set (x29_1 : Int).toNat t164) := ⟨_, rfl⟩
                   replace H : (beam_over.l0 k1 l0 ji2 ji7 y165 (l0.length : Int) (wrap64 (x29_1 + 1))) = some r := by first | (rw [hy165]; with_reducible exact H) | (have H2_ := (Option.bind_some _ _).symm.trans H; rw [hy165]; with_reducible exact H2_) | (have H2_ := (Option.bind_some _ _).symm.trans H; with_reducible exact H2_) | with_reducible exact H | (rw [hy165]; exact H) | exact H
                   have Ny165 := Aside0.mk hy165
                   clear hy165
                   have H' := Aside0.mk H
                   clear H
                   go_wp2_with (first | (go_at_call 45; (with_reducible refine (beam_down.calls (wrap64 (ji7 * x29_1)) ji2 t164 _ A13.out).mono ?_); rintro e w' ⟨rfl, ⟨nd, rfl⟩⟩; (try first | exact ⟨rfl, _, World.drewN_drewN _ _ _⟩ | exact ⟨rfl, _, Eq.trans (World.drewN_drewN _ _ _) (congrArg (World.drewN _) (Nat.add_assoc _ _ _))⟩); have p16 : 0 ≤ (x29_1 : Int) := of_decide_eq_true (by first | (with_reducible assumption) | assumption); have q16 : (x29_1 : Int) < ((x5_1.length : Int) : Int) := of_decide_eq_true (by first | (with_reducible assumption) | assumption); obtain ⟨go16, co16, eo16, gb16, gl16, cl16, HG16⟩ := Kd.R_form HO_5.out (by omega); (first | cases eo16 | (injection eo16 with ea_ en_ ec_; (first | subst ea_ | (injection ea_ with ea_; subst ea_)); subst ec_; clear en_)); have GB16 := Aside0.mk gb16; have GG16 := Aside0.mk HG16; clear gb16 gl16 HG16; obtain ⟨hx16_0, hf16_0⟩ := Kd.R_celln 0 HO_5.out (x29_1 : Int) p16 q16; replace p16 := eq_true p16; replace q16 := eq_true q16; obtain ⟨hy17_, hz17_⟩ := Kd.R_celln 0 HO_5.out (x29_1 : Int) (of_decide_eq_true (by first | (with_reducible assumption) | assumption)) (of_decide_eq_true (by first | (with_reducible assumption) | assumption)); have HP17 := Kd.R_putg HO_5.out (x29_1 : Int) t164) | ((with_reducible refine gate_store (t := 3) (p := 39) rfl ?_); (try (rw [drewN_self wr]; generalize hq_ : World.drewN wr _ = wr; replace HO_5 := Aside0.mk (Kd.R_at hq_ HO_5.out); replace HB := Aside0.mk (below_at hq_ HB.out); clear hq_; (try (obtain ⟨hy17_, hz17_⟩ := Kd.R_celln 0 HO_5.out (x29_1 : Int) (of_decide_eq_true (by first | (with_reducible assumption) | assumption)) (of_decide_eq_true (by first | (with_reducible assumption) | assumption)))); (try (have HP17 := Kd.R_putg HO_5.out (x29_1 : Int) t164)))); refine store_event (t := 3) (p := 39) (v := ?vo_w18) (w1 := (wr.setCell ⟨go16, (x29_1 : Int).toNat, none⟩ (.int .i64 t164))) ?hg ?ho ?hn ?hr ?_; (case ho => rfl); (case hg => rfl); (case hn => rfl); (case hr => first | (go_simp; done) | (go_simp; rfl)); intro w18 hw; have hg : wr.grownBy w18 (some go16) := (by rw [hw]; exact HP17.2); have hp_ : Kd.R (Kd.int .i64) 3 w18 w.heap.size (fun _ => True) (.slice (some ⟨go16, 0, none⟩) x5_1.length co16) y165 := (by rw [hw, Ny165.out]; exact HP17.1); clear HP17; replace HO_5 := Aside0.mk (hp_); replace HB := Aside0.mk ((by rw [hw]; exact below_set (HB.out) GB16.out : Below w.heap.size w w18)); clear hg hw hp_))
                   repeat (go_quiet (first | (go_at_call 45; (with_reducible refine (beam_down.calls (wrap64 (ji7 * x29_1)) ji2 t164 _ A13.out).mono ?_); rintro e w' ⟨rfl, ⟨nd, rfl⟩⟩; (try first | exact ⟨rfl, _, World.drewN_drewN _ _ _⟩ | exact ⟨rfl, _, Eq.trans (World.drewN_drewN _ _ _) (congrArg (World.drewN _) (Nat.add_assoc _ _ _))⟩); have p16 : 0 ≤ (x29_1 : Int) := of_decide_eq_true (by first | (with_reducible assumption) | assumption); have q16 : (x29_1 : Int) < ((x5_1.length : Int) : Int) := of_decide_eq_true (by first | (with_reducible assumption) | assumption); obtain ⟨go16, co16, eo16, gb16, gl16, cl16, HG16⟩ := Kd.R_form HO_5.out (by omega); (first | cases eo16 | (injection eo16 with ea_ en_ ec_; (first | subst ea_ | (injection ea_ with ea_; subst ea_)); subst ec_; clear en_)); have GB16 := Aside0.mk gb16; have GG16 := Aside0.mk HG16; clear gb16 gl16 HG16; obtain ⟨hx16_0, hf16_0⟩ := Kd.R_celln 0 HO_5.out (x29_1 : Int) p16 q16; replace p16 := eq_true p16; replace q16 := eq_true q16; obtain ⟨hy17_, hz17_⟩ := Kd.R_celln 0 HO_5.out (x29_1 : Int) (of_decide_eq_true (by first | (with_reducible assumption) | assumption)) (of_decide_eq_true (by first | (with_reducible assumption) | assumption)); have HP17 := Kd.R_putg HO_5.out (x29_1 : Int) t164) | ((with_reducible refine gate_store (t := 3) (p := 39) rfl ?_); (try (rw [drewN_self wr]; generalize hq_ : World.drewN wr _ = wr; replace HO_5 := Aside0.mk (Kd.R_at hq_ HO_5.out); replace HB := Aside0.mk (below_at hq_ HB.out); clear hq_; (try (obtain ⟨hy17_, hz17_⟩ := Kd.R_celln 0 HO_5.out (x29_1 : Int) (of_decide_eq_true (by first | (with_reducible assumption) | assumption)) (of_decide_eq_true (by first | (with_reducible assumption) | assumption)))); (try (have HP17 := Kd.R_putg HO_5.out (x29_1 : Int) t164)))); refine store_event (t := 3) (p := 39) (v := ?vo_w18) (w1 := (wr.setCell ⟨go16, (x29_1 : Int).toNat, none⟩ (.int .i64 t164))) ?hg ?ho ?hn ?hr ?_; (case ho => rfl); (case hg => rfl); (case hn => rfl); (case hr => first | (go_simp; done) | (go_simp; rfl)); intro w18 hw; have hg : wr.grownBy w18 (some go16) := (by rw [hw]; exact HP17.2); have hp_ : Kd.R (Kd.int .i64) 3 w18 w.heap.size (fun _ => True) (.slice (some ⟨go16, 0, none⟩) x5_1.length co16) y165 := (by rw [hw, Ny165.out]; exact HP17.1); clear HP17; replace HO_5 := Aside0.mk (hp_); replace HB := Aside0.mk ((by rw [hw]; exact below_set (HB.out) GB16.out : Below w.heap.size w w18)); clear hg hw hp_)); try go_wp2_with (first | (go_at_call 45; (with_reducible refine (beam_down.calls (wrap64 (ji7 * x29_1)) ji2 t164 _ A13.out).mono ?_); rintro e w' ⟨rfl, ⟨nd, rfl⟩⟩; (try first | exact ⟨rfl, _, World.drewN_drewN _ _ _⟩ | exact ⟨rfl, _, Eq.trans (World.drewN_drewN _ _ _) (congrArg (World.drewN _) (Nat.add_assoc _ _ _))⟩); have p16 : 0 ≤ (x29_1 : Int) := of_decide_eq_true (by first | (with_reducible assumption) | assumption); have q16 : (x29_1 : Int) < ((x5_1.length : Int) : Int) := of_decide_eq_true (by first | (with_reducible assumption) | assumption); obtain ⟨go16, co16, eo16, gb16, gl16, cl16, HG16⟩ := Kd.R_form HO_5.out (by omega); (first | cases eo16 | (injection eo16 with ea_ en_ ec_; (first | subst ea_ | (injection ea_ with ea_; subst ea_)); subst ec_; clear en_)); have GB16 := Aside0.mk gb16; have GG16 := Aside0.mk HG16; clear gb16 gl16 HG16; obtain ⟨hx16_0, hf16_0⟩ := Kd.R_celln 0 HO_5.out (x29_1 : Int) p16 q16; replace p16 := eq_true p16; replace q16 := eq_true q16; obtain ⟨hy17_, hz17_⟩ := Kd.R_celln 0 HO_5.out (x29_1 : Int) (of_decide_eq_true (by first | (with_reducible assumption) | assumption)) (of_decide_eq_true (by first | (with_reducible assumption) | assumption)); have HP17 := Kd.R_putg HO_5.out (x29_1 : Int) t164) | ((with_reducible refine gate_store (t := 3) (p := 39) rfl ?_); (try (rw [drewN_self wr]; generalize hq_ : World.drewN wr _ = wr; replace HO_5 := Aside0.mk (Kd.R_at hq_ HO_5.out); replace HB := Aside0.mk (below_at hq_ HB.out); clear hq_; (try (obtain ⟨hy17_, hz17_⟩ := Kd.R_celln 0 HO_5.out (x29_1 : Int) (of_decide_eq_true (by first | (with_reducible assumption) | assumption)) (of_decide_eq_true (by first | (with_reducible assumption) | assumption)))); (try (have HP17 := Kd.R_putg HO_5.out (x29_1 : Int) t164)))); refine store_event (t := 3) (p := 39) (v := ?vo_w18) (w1 := (wr.setCell ⟨go16, (x29_1 : Int).toNat, none⟩ (.int .i64 t164))) ?hg ?ho ?hn ?hr ?_; (case ho => rfl); (case hg => rfl); (case hn => rfl); (case hr => first | (go_simp; done) | (go_simp; rfl)); intro w18 hw; have hg : wr.grownBy w18 (some go16) := (by rw [hw]; exact HP17.2); have hp_ : Kd.R (Kd.int .i64) 3 w18 w.heap.size (fun _ => True) (.slice (some ⟨go16, 0, none⟩) x5_1.length co16) y165 := (by rw [hw, Ny165.out]; exact HP17.1); clear HP17; replace HO_5 := Aside0.mk (hp_); replace HB := Aside0.mk ((by rw [hw]; exact below_set (HB.out) GB16.out : Below w.heap.size w w18)); clear hg hw hp_)))
                   go_roundg k1
                   case measure => have := HK1.out; omega
                   case rel => exact ⟨(y165), (wrap64 (x29_1 + 1)), (by first | rfl | (simp; done) | (simp [*]; done) | (simp [wrap64]; done)), H', ⟨by have := HK1.out; omega⟩, ⟨by (with_reducible repeat (first | apply Kd.R_alloc | apply Kd.R_drewN | apply Kd.R_drew)); exact HO_5.out⟩, ⟨by exact qW HB.out⟩⟩
                 · rw [if_neg c15] at H
                   exact absurd H (by simp)
               · rw [if_neg c14] at H
                 exact absurd H (by simp)
             · rw [if_neg c12] at H
               have c12b0 : decide (x29_1 < (l0.length : Int)) = false := decide_eq_false c12
               clear c12
               by_cases c19 : 0 < (l0.length : Int)
               · rw [if_pos c19] at H
                 have c19b0 : decide (0 < (l0.length : Int)) = true := decide_eq_true c19
                 have c19b1 : decide (0 < l0.length) = true := decide_eq_true (by omega)
                 clear c19
                 by_cases c20 : 0 < (x5_1.length : Int)
                 · rw [if_pos c20] at H
                   have c20b0 : decide (0 < (x5_1.length : Int)) = true := decide_eq_true c20
                   have c20b1 : decide (0 < x5_1.length) = true := decide_eq_true (by omega)
                   clear c20
                   have H' := Aside0.mk H
                   clear H
                   have p166 : 0 ≤ (0 : Int) := (by omega)
                   have q166 : 0 < (l0.length : Int) := of_decide_eq_true (by first | (with_reducible assumption) | assumption)
                   obtain ⟨ad166, e166, hx166_0⟩ := Kd.at_int HR0.out 0 p166 q166
                   obtain rfl : ad159 = ad166 := (by injection e166)
                   have qi166 : (0 < l0.length) = True := eq_true (by omega)
                   (try rw [show ((0 : Int)).toNat = 0 from rfl] at hx166_0)
                   (try rw [Addr.add_zero'] at hx166_0)
                   replace hx166_0 := (HB.out.cell (World.block_lt_of_cell? w _ hx166_0)).trans hx166_0
                   replace p166 := eq_true p166
                   replace q166 := eq_true q166
                   obtain ⟨Ao21, co21, eo21⟩ := Kd.R_slice HO_5.out
                   subst eo21
                   have p167 : 0 ≤ (0 : Int) := (by omega)
                   have q167 : 0 < (x5_1.length : Int) := of_decide_eq_true (by first | (with_reducible assumption) | assumption)
                   obtain ⟨ad167, e167, hx167_0⟩ := Kd.at_int (Kd.R_reads' HO_5.out).2.2 0 p167 q167
                   cases e167
                   have qi167 : (0 < x5_1.length) = True := eq_true (by omega)
                   (try rw [show ((0 : Int)).toNat = 0 from rfl] at hx167_0)
                   (try rw [Addr.add_zero'] at hx167_0)
                   replace p167 := eq_true p167
                   replace q167 := eq_true q167
                   go_wp2
                   repeat (go_quiet (fail); try go_wp2)
                   go_loopg [7, 51] k1 (fun kq v7 v51 w' => ∃ (x7_2 : Int) (x51_2 : Int), v7 = .int .i64 x7_2 ∧ v51 = .int .i64 x51_2 ∧ Aside0 (beam_over.l1 kq x5_1 x7_2 l0 (l0.length : Int) x51_2 = some r) ∧ Aside0 (kq ≤ k1) ∧ Aside0 (Kd.R (Kd.int .i64) 3 w' w.heap.size (fun _ => True) (.slice (some ad167) x5_1.length co21) x5_1) ∧ Aside0 (Below w.heap.size w w'))
                   case atStart => exact ⟨(wrap64 ((wrap64 ((rd l0 0) + 5)) - (rd x5_1 0))), (0), (by first | rfl | (simp; done) | (simp [*]; done) | (simp [wrap64]; done)), (by first | rfl | (simp; done) | (simp [*]; done) | (simp [wrap64]; done)), H', ⟨Nat.le_refl _⟩, ⟨by (with_reducible repeat (first | apply Kd.R_alloc | apply Kd.R_drewN | apply Kd.R_drew)); exact HO_5.out⟩, ⟨by exact qW HB.out⟩⟩
                   case round =>
                    clear H'
                    try clear c1
                    try clear p1
                    try clear q1
                    try clear hx1
                    try clear qi1
                    try clear hf1
                    try clear c2
                    try clear p2
                    try clear c3
                    try clear c3b0
                    try clear c4
                    try clear c4b0
                    try clear c5
                    try clear c5b0
                    try clear c5b1
                    try clear p6
                    try clear c8
                    try clear c8b0
                    try clear c8b1
                    try clear c9
                    try clear c9b0
                    try clear c9b1
                    try clear c12
                    try clear c12b0
                    try clear c14
                    try clear c14b0
                    try clear c15
                    try clear c15b0
                    try clear p15
                    try clear q15
                    try clear hx15
                    try clear p16
                    try clear q16
                    try clear hx16
                    try clear qi16
                    try clear hf16
                    try clear c19
                    try clear c19b0
                    try clear c19b1
                    try clear c20
                    try clear c20b0
                    try clear c20b1
                    try clear hx159_0
                    try clear hx160_0
                    try clear hx166_0
                    try clear hx167_0
                    try clear hx16_0
                    try clear p1
                    try clear p159
                    try clear p16
                    try clear p160
                    try clear p166
                    try clear p167
                    try clear p2
                    try clear p6
                    try clear q1
                    try clear q159
                    try clear q16
                    try clear q160
                    try clear q166
                    try clear q167
                    obtain ⟨x7_2, x51_2, rfl, rfl, HA, HK2, HO_5, HB⟩ := hrel
                    cases gk with
                    | zero => exact absurd HA.out (by simp [beam_over.l1])
                    | succ k2 =>
                     have H := HA.out
                     clear HA
                     simp only [beam_over.l1] at H
                     by_cases c22 : x51_2 < (l0.length : Int)
                     · rw [if_pos c22] at H
                       have c22b0 : decide (x51_2 < (l0.length : Int)) = true := decide_eq_true c22
                       clear c22
                       by_cases c23 : 0 ≤ x51_2
                       · rw [if_pos c23] at H
                         have c23b0 : decide (0 ≤ x51_2) = true := decide_eq_true c23
                         clear c23
                         by_cases c24 : x51_2 < (l0.length : Int)
                         · rw [if_pos c24] at H
                           have c24b0 : decide (x51_2 < (l0.length : Int)) = true := decide_eq_true c24
                           clear c24
                           by_cases c25 : x51_2 < (x5_1.length : Int)
                           · rw [if_pos c25] at H
                             have c25b0 : decide (x51_2 < (x5_1.length : Int)) = true := decide_eq_true c25
                             clear c25
                             obtain ⟨ji26, hji26⟩ : ∃ j_ : Int, (mx x7_2 (wrap64 ((wrap64 ((rd l0 x51_2) + 5)) - (rd x5_1 x51_2)))) = j_ := ⟨_, rfl⟩
                             replace H : (beam_over.l1 k2 x5_1 ji26 l0 (l0.length : Int) (wrap64 (x51_2 + 1))) = some r := by first | (rw [hji26] at H; exact H) | (simp only [hji26] at H ⊢; exact H)
                             have hji26_ : (if x7_2 < (wrap64 ((wrap64 ((rd l0 x51_2) + 5)) - (rd x5_1 x51_2))) then (wrap64 ((wrap64 ((rd l0 x51_2) + 5)) - (rd x5_1 x51_2))) else x7_2) = ji26 := hji26
                             have H' := Aside0.mk H
                             clear H
                             have p168 : 0 ≤ (x51_2 : Int) := of_decide_eq_true (by first | (with_reducible assumption) | assumption)
                             have q168 : x51_2 < (l0.length : Int) := of_decide_eq_true (by first | (with_reducible assumption) | assumption)
                             obtain ⟨ad168, e168, hx168_0⟩ := Kd.at_int HR0.out x51_2 p168 q168
                             obtain rfl : ad159 = ad168 := (by injection e168)
                             replace hx168_0 := (HB.out.cell (World.block_lt_of_cell? w _ hx168_0)).trans hx168_0
                             replace p168 := eq_true p168
                             replace q168 := eq_true q168
                             have p169 : 0 ≤ (x51_2 : Int) := of_decide_eq_true (by first | (with_reducible assumption) | assumption)
                             have q169 : x51_2 < (x5_1.length : Int) := of_decide_eq_true (by first | (with_reducible assumption) | assumption)
                             obtain ⟨ad169, e169, hx169_0⟩ := Kd.at_int (Kd.R_reads' HO_5.out).2.2 x51_2 p169 q169
                             obtain rfl : ad167 = ad169 := (by injection e169)
                             replace p169 := eq_true p169
                             replace q169 := eq_true q169
                             go_wp2
                             repeat (go_quiet (fail); try go_wp2)
                             go_roundg k2
                             case measure => have := HK1.out; have := HK2.out; omega
                             case rel => exact ⟨(ji26), (wrap64 (x51_2 + 1)), (by first | rfl | (simp; done) | (simp only [← hji26] <;> (first | rfl | simp)) | (simp [*]; done)), (by first | rfl | (simp; done) | (simp [*]; done) | (simp [wrap64]; done)), H', ⟨by have := HK1.out; have := HK2.out; omega⟩, ⟨by (with_reducible repeat (first | apply Kd.R_alloc | apply Kd.R_drewN | apply Kd.R_drew)); exact HO_5.out⟩, ⟨by exact qW HB.out⟩⟩
                           · rw [if_neg c25] at H
                             exact absurd H (by simp)
                         · rw [if_neg c24] at H
                           exact absurd H (by simp)
                       · rw [if_neg c23] at H
                         exact absurd H (by simp)
                     · rw [if_neg c22] at H
                       have c22b0 : decide (x51_2 < (l0.length : Int)) = false := decide_eq_false c22
                       clear c22
                       have H' := Aside0.mk H
                       clear H
                       go_wp2
                       repeat (go_quiet (fail); try go_wp2)
                       go_loopg [68] k2 (fun kq v68 w' => ∃ (x5_3 : List Int) (x68_3 : Int), v68 = .int .i64 x68_3 ∧ Aside0 (beam_over.l2 kq x5_3 x7_2 (x5_1.length : Int) x68_3 = some r) ∧ Aside0 (kq ≤ k2) ∧ Aside0 (Kd.R (Kd.int .i64) 3 w' w.heap.size (fun _ => True) (.slice (some ad167) x5_1.length co21) x5_3) ∧ Aside0 (Below w.heap.size w w'))
                       case atStart => exact ⟨(x5_1), (0), (by first | rfl | (simp; done) | (simp [*]; done) | (simp [wrap64]; done)), H', ⟨Nat.le_refl _⟩, ⟨by (with_reducible repeat (first | apply Kd.R_alloc | apply Kd.R_drewN | apply Kd.R_drew)); exact HO_5.out⟩, ⟨by exact qW HB.out⟩⟩
                       case round =>
                        clear H'
                        try clear c1
                        try clear p1
                        try clear q1
                        try clear hx1
                        try clear qi1
                        try clear hf1
                        try clear c2
                        try clear p2
                        try clear c3
                        try clear c3b0
                        try clear c4
                        try clear c4b0
                        try clear c5
                        try clear c5b0
                        try clear c5b1
                        try clear p6
                        try clear c8
                        try clear c8b0
                        try clear c8b1
                        try clear c9
                        try clear c9b0
                        try clear c9b1
                        try clear c12
                        try clear c12b0
                        try clear c14
                        try clear c14b0
                        try clear c15
                        try clear c15b0
                        try clear p15
                        try clear q15
                        try clear hx15
                        try clear p16
                        try clear q16
                        try clear hx16
                        try clear qi16
                        try clear hf16
                        try clear c19
                        try clear c19b0
                        try clear c19b1
                        try clear c20
                        try clear c20b0
                        try clear c20b1
                        try clear c22
                        try clear c22b0
                        try clear c23
                        try clear c23b0
                        try clear c24
                        try clear c24b0
                        try clear c25
                        try clear c25b0
                        try clear hx159_0
                        try clear hx160_0
                        try clear hx166_0
                        try clear hx167_0
                        try clear hx168_0
                        try clear hx169_0
                        try clear hx16_0
                        try clear p1
                        try clear p15
                        try clear p159
                        try clear p16
                        try clear p160
                        try clear p166
                        try clear p167
                        try clear p168
                        try clear p169
                        try clear p2
                        try clear p6
                        try clear q1
                        try clear q15
                        try clear q159
                        try clear q16
                        try clear q160
                        try clear q166
                        try clear q167
                        try clear q168
                        try clear q169
                        obtain ⟨x5_3, x68_3, rfl, HA, HK3, HO_5, HB⟩ := hrel
                        have hl5_3 := (Kd.R_reads' HO_5.out).1
                        rw [hl5_3] at HO_5
                        (try simp only [hl5_3])
                        cases gk with
                        | zero => exact absurd HA.out (by simp [beam_over.l2])
                        | succ k3 =>
                         have H := HA.out
                         clear HA
                         simp only [beam_over.l2] at H
                         by_cases c27 : x68_3 < (x5_1.length : Int)
                         · rw [if_pos c27] at H
                           have c27b0 : decide (x68_3 < (x5_1.length : Int)) = true := decide_eq_true c27
                           clear c27
                           by_cases c28 : 0 ≤ x68_3
                           · rw [if_pos c28] at H
                             have c28b0 : decide (0 ≤ x68_3) = true := decide_eq_true c28
                             clear c28
                             by_cases c29 : x68_3 < (x5_3.length : Int)
                             · rw [if_pos c29] at H
                               have c29b0 : decide (x68_3 < (x5_3.length : Int)) = true := decide_eq_true c29
                               clear c29
                               obtain ⟨y171, hy171⟩ : ∃ y_ : List Int, y_ = (x5_3.set (x68_3 : Int).toNat (wrap64 ((rd x5_3 x68_3) + x7_2))) := ⟨_, rfl⟩
                               replace H : (beam_over.l2 k3 y171 x7_2 (x5_1.length : Int) (wrap64 (x68_3 + 1))) = some r := by first | (rw [hy171]; with_reducible exact H) | (have H2_ := (Option.bind_some _ _).symm.trans H; rw [hy171]; with_reducible exact H2_) | (have H2_ := (Option.bind_some _ _).symm.trans H; with_reducible exact H2_) | with_reducible exact H | (rw [hy171]; exact H) | exact H
                               have Ny171 := Aside0.mk hy171
                               clear hy171
                               have H' := Aside0.mk H
                               clear H
                               have p170 : 0 ≤ (x68_3 : Int) := of_decide_eq_true (by first | (with_reducible assumption) | assumption)
                               have q170 : x68_3 < (x5_3.length : Int) := of_decide_eq_true (by first | (with_reducible assumption) | assumption)
                               obtain ⟨ad170, e170, hx170_0⟩ := Kd.at_int (Kd.R_reads' HO_5.out).2.2 x68_3 p170 q170
                               obtain rfl : ad167 = ad170 := (by injection e170)
                               replace p170 := eq_true p170
                               replace q170 := eq_true q170
                               have p30 : 0 ≤ (x68_3 : Int) := of_decide_eq_true (by first | (with_reducible assumption) | assumption)
                               have q30 : (x68_3 : Int) < ((x5_3.length : Int) : Int) := of_decide_eq_true (by first | (with_reducible assumption) | assumption)
                               obtain ⟨go30, co30, eo30, gb30, gl30, cl30, HG30⟩ := Kd.R_form HO_5.out (by omega)
                               (first | cases eo30 | (injection eo30 with ea_ en_ ec_; (first | subst ea_ | (injection ea_ with ea_; subst ea_)); subst ec_; clear en_))
                               have GB30 := Aside0.mk gb30
                               have GG30 := Aside0.mk HG30
                               clear gb30 gl30 HG30
                               (first | simp only [add_plain] at hx167_0 | skip)
                               (first | simp only [add_plain] at hx169_0 | skip)
                               (first | simp only [add_plain] at hx170_0 | skip)
                               obtain ⟨hx30_0, hf30_0⟩ := Kd.R_celln 0 HO_5.out (x68_3 : Int) p30 q30
                               replace p30 := eq_true p30
                               replace q30 := eq_true q30
                               have HP31 := Kd.R_putg HO_5.out (x68_3 : Int) (wrap64 ((rd x5_3 x68_3) + x7_2))
                               go_wp2_with (first | ((with_reducible refine gate_store (t := 3) (p := 77) rfl ?_); (try (rw [drewN_self wr]; generalize hq_ : World.drewN wr _ = wr; replace HO_5 := Aside0.mk (Kd.R_at hq_ HO_5.out); replace HB := Aside0.mk (below_at hq_ HB.out); clear hq_; (try (have HP31 := Kd.R_putg HO_5.out (x68_3 : Int) (wrap64 ((rd x5_3 x68_3) + x7_2)))))); refine store_event (t := 3) (p := 77) (v := ?vo_w32) (w1 := (wr.setCell ⟨go30, (x68_3 : Int).toNat, none⟩ (.int .i64 (wrap64 ((rd x5_3 x68_3) + x7_2))))) ?hg ?ho ?hn ?hr ?_; (case ho => rfl); (case hg => rfl); (case hn => rfl); (case hr => first | (go_simp; done) | (go_simp; rfl)); intro w32 hw; have hg : wr.grownBy w32 (some go30) := (by rw [hw]; exact HP31.2); have hp_ : Kd.R (Kd.int .i64) 3 w32 w.heap.size (fun _ => True) (.slice (some ⟨go30, 0, none⟩) x5_3.length co21) y171 := (by rw [hw, Ny171.out]; exact HP31.1); clear HP31; replace HO_5 := Aside0.mk (hp_); replace HB := Aside0.mk ((by rw [hw]; exact below_set (HB.out) GB30.out : Below w.heap.size w w32)); clear hg hw hp_))
                               repeat (go_quiet (first | ((with_reducible refine gate_store (t := 3) (p := 77) rfl ?_); (try (rw [drewN_self wr]; generalize hq_ : World.drewN wr _ = wr; replace HO_5 := Aside0.mk (Kd.R_at hq_ HO_5.out); replace HB := Aside0.mk (below_at hq_ HB.out); clear hq_; (try (have HP31 := Kd.R_putg HO_5.out (x68_3 : Int) (wrap64 ((rd x5_3 x68_3) + x7_2)))))); refine store_event (t := 3) (p := 77) (v := ?vo_w32) (w1 := (wr.setCell ⟨go30, (x68_3 : Int).toNat, none⟩ (.int .i64 (wrap64 ((rd x5_3 x68_3) + x7_2))))) ?hg ?ho ?hn ?hr ?_; (case ho => rfl); (case hg => rfl); (case hn => rfl); (case hr => first | (go_simp; done) | (go_simp; rfl)); intro w32 hw; have hg : wr.grownBy w32 (some go30) := (by rw [hw]; exact HP31.2); have hp_ : Kd.R (Kd.int .i64) 3 w32 w.heap.size (fun _ => True) (.slice (some ⟨go30, 0, none⟩) x5_3.length co21) y171 := (by rw [hw, Ny171.out]; exact HP31.1); clear HP31; replace HO_5 := Aside0.mk (hp_); replace HB := Aside0.mk ((by rw [hw]; exact below_set (HB.out) GB30.out : Below w.heap.size w w32)); clear hg hw hp_)); try go_wp2_with (first | ((with_reducible refine gate_store (t := 3) (p := 77) rfl ?_); (try (rw [drewN_self wr]; generalize hq_ : World.drewN wr _ = wr; replace HO_5 := Aside0.mk (Kd.R_at hq_ HO_5.out); replace HB := Aside0.mk (below_at hq_ HB.out); clear hq_; (try (have HP31 := Kd.R_putg HO_5.out (x68_3 : Int) (wrap64 ((rd x5_3 x68_3) + x7_2)))))); refine store_event (t := 3) (p := 77) (v := ?vo_w32) (w1 := (wr.setCell ⟨go30, (x68_3 : Int).toNat, none⟩ (.int .i64 (wrap64 ((rd x5_3 x68_3) + x7_2))))) ?hg ?ho ?hn ?hr ?_; (case ho => rfl); (case hg => rfl); (case hn => rfl); (case hr => first | (go_simp; done) | (go_simp; rfl)); intro w32 hw; have hg : wr.grownBy w32 (some go30) := (by rw [hw]; exact HP31.2); have hp_ : Kd.R (Kd.int .i64) 3 w32 w.heap.size (fun _ => True) (.slice (some ⟨go30, 0, none⟩) x5_3.length co21) y171 := (by rw [hw, Ny171.out]; exact HP31.1); clear HP31; replace HO_5 := Aside0.mk (hp_); replace HB := Aside0.mk ((by rw [hw]; exact below_set (HB.out) GB30.out : Below w.heap.size w w32)); clear hg hw hp_)))
                               (try simp only [← hl5_3])
                               go_roundg k3
                               case measure => have := HK1.out; have := HK2.out; have := HK3.out; omega
                               case rel => exact ⟨(y171), (wrap64 (x68_3 + 1)), (by first | rfl | (simp; done) | (simp [*]; done) | (simp [wrap64]; done)), H', ⟨by have := HK1.out; have := HK2.out; have := HK3.out; omega⟩, ⟨by (try simp only [hl5_3]); (with_reducible repeat (first | apply Kd.R_alloc | apply Kd.R_drewN | apply Kd.R_drew)); exact HO_5.out⟩, ⟨by exact qW HB.out⟩⟩
                             · rw [if_neg c29] at H
                               exact absurd H (by simp)
                           · rw [if_neg c28] at H
                             exact absurd H (by simp)
                         · rw [if_neg c27] at H
                           have c27b0 : decide (x68_3 < (x5_1.length : Int)) = false := decide_eq_false c27
                           have c27b9 : decide (x68_3 < (x5_3.length : Int)) = false := by first | (rw [hl5_3]; exact c27b0) | (rw [← hl5_3]; exact c27b0) | exact c27b0
                           clear c27
                           obtain rfl := Option.some.inj H
                           go_wp2
                           repeat (go_quiet (fail); try go_wp2)
                           go_ret
                           exact ⟨_, by first | rfl | (simp [errW_none, errW_some] <;> rfl) | (simp only [← hji2, ← hji6, ← hji7]; first | rfl | (simp [errW_none, errW_some] <;> rfl)) | (simp [*, errW_none, errW_some] <;> rfl), by (with_reducible repeat (first | apply Kd.R_alloc | apply Kd.R_drewN | apply Kd.R_drew)); exact HO_5.out, by exact qW HB.out⟩
                 · rw [if_neg c20] at H
                   exact absurd H (by simp)
               · rw [if_neg c19] at H
                 exact absurd H (by simp)
         · rw [if_neg c9] at H
           exact absurd H (by simp)
       · rw [if_neg c8] at H
         exact absurd H (by simp)
     · rw [if_neg c5] at H
       exact absurd H (by simp)
   · rw [if_neg c4] at H
     exact absurd H (by simp)
 · rw [if_neg c3] at H
   exact absurd H (by simp)

/-! ### beam_turned: function 26 -/
def beam_turned.l0 : Nat → List Int → List Int → Int → Int → Option (List Int)
 | 0, _, _, _, _ => none
 | k + 1, x3, x6, x7, x8 => if x8 < x7 then (if 0 ≤ x8 then (if x8 < (x6.length : Int) then (if x3.length < 17592186044416 then (beam_turned.l0 k (x3 ++ [wrap64 (-(rd x6 x8))]) x6 x7 (wrap64 (x8 + 1))) else (none)) else (none)) else (none)) else (some x3)
def beam_turned.f (k : Nat) (l0 : List Int) : Option (List Int) := beam_turned.l0 k ([] : List Int) l0 (l0.length : Int) 0
theorem beam_turned.mono_l : ∀ k, (∀ y0 y1 y2 y3, LeO (beam_turned.l0 k y0 y1 y2 y3) (beam_turned.l0 (k + 1) y0 y1 y2 y3))
 | 0 => fun _ _ _ _ r h => by simp [beam_turned.l0] at h
 | k + 1 => by
  have ih0 := beam_turned.mono_l k
  · intro y0 y1 y2 y3
    unfold beam_turned.l0
    repeat' first
    | (with_reducible exact ih0 _ _ _ _)
    | (with_reducible exact LeO.refl _)
    | (with_reducible exact LeO.none _)
    | (with_reducible refine LeO.ite ?_ ?_)
    | (with_reducible refine LeO.bind ?_ (fun _ => ?_))
    | exact ih0 _ _ _ _
    | exact LeO.none _
    | refine LeO.ite ?_ ?_
    | refine LeO.bind ?_ (fun _ => ?_)
theorem beam_turned.mono : ∀ a0 k, LeO (beam_turned.f k a0) (beam_turned.f (k + 1) a0) := by
 intro a0 k
 have ih0 := beam_turned.mono_l k
 unfold beam_turned.f
 repeat' first
  | (with_reducible exact ih0 _ _ _ _)
  | (with_reducible exact LeO.refl _)
  | (with_reducible exact LeO.none _)
  | (with_reducible refine LeO.ite ?_ ?_)
  | (with_reducible refine LeO.bind ?_ (fun _ => ?_))
  | exact ih0 _ _ _ _
  | exact LeO.none _
  | refine LeO.ite ?_ ?_
  | refine LeO.bind ?_ (fun _ => ?_)
set_option maxHeartbeats 8000000 in
set_option maxRecDepth 100000 in
theorem beam_turned.calls (k : Nat) (A0 : Option Addr) (c0 : Nat) (l0 : List Int) (r : List Int) (w : World) (hr0 : Kd.C (Kd.int .i64) w A0 l0.length l0) (hc0 : l0.length ≤ c0) (h : beam_turned.f k l0 = some r) :
 Calls Tryz.prog 26 #[.slice A0 l0.length c0] w fun e w' => ∃ v0_ : Value, e = .returned (v0_) ∧ Kd.R (Kd.int .i64) 3 w' w.heap.size (fun _ => True) v0_ r ∧ Below w.heap.size w w' := by
 have HR0 := Aside0.mk hr0
 have HC0 := Aside0.mk hc0
 clear hr0 hc0
 have HB := Aside0.mk (Below.refl w.heap.size w)
 have H : (beam_turned.l0 k ([] : List Int) l0 (l0.length : Int) 0) = some r := h
 clear h
 have H' := Aside0.mk H
 clear H
 go_enter Tryz.func26, Tryz.ntmps26
 go_wp2
 go_loopg [3, 8] k (fun kq v3 v8 w' => ∃ (x3_1 : List Int) (x8_1 : Int), v8 = .int .i64 x8_1 ∧ Aside0 (beam_turned.l0 kq x3_1 l0 (l0.length : Int) x8_1 = some r) ∧ Aside0 (kq ≤ k) ∧ Aside0 (Kd.R (Kd.int .i64) 3 w' w.heap.size (fun _ => True) v3 x3_1) ∧ Aside0 (Below w.heap.size w w'))
 case atStart => exact ⟨(([] : List Int)), (0), (by first | rfl | (simp; done) | (simp [*]; done) | (simp [wrap64]; done)), H', ⟨Nat.le_refl _⟩, ⟨by first | exact Kd.R_nil _ _ _ _ _ | exact Kd.N_nil _ _ _ _ _ | exact Kd.V_nil _ _ _ _ _ | exact Kd.Q_nil _ _ _ _ _ | exact Kd.S_nil _ _ _ _ _⟩, ⟨by repeat (first | (with_reducible first | exact HB.out | apply below_alloc | apply pw_below_drewN | apply below_drew1) | exact HB.out)⟩⟩
 case round =>
  clear H'
  obtain ⟨x3_1, x8_1, rfl, HA, HK1, HO_3, HB⟩ := hrel
  cases gk with
  | zero => exact absurd HA.out (by simp [beam_turned.l0])
  | succ k1 =>
   have H := HA.out
   clear HA
   simp only [beam_turned.l0] at H
   by_cases c2 : x8_1 < (l0.length : Int)
   · rw [if_pos c2] at H
     have c2b0 : decide (x8_1 < (l0.length : Int)) = true := decide_eq_true c2
     clear c2
     by_cases c3 : 0 ≤ x8_1
     · rw [if_pos c3] at H
       have c3b0 : decide (0 ≤ x8_1) = true := decide_eq_true c3
       clear c3
       by_cases c4 : x8_1 < (l0.length : Int)
       · rw [if_pos c4] at H
         have c4b0 : decide (x8_1 < (l0.length : Int)) = true := decide_eq_true c4
         clear c4
         by_cases c5 : x3_1.length < 17592186044416
         · rw [if_pos c5] at H
           have LMc5 := Aside0.mk c5
           clear c5
           obtain ⟨y173, hy173⟩ : ∃ y_ : List Int, y_ = (x3_1 ++ [wrap64 (-(rd l0 x8_1))]) := ⟨_, rfl⟩
           replace H : (beam_turned.l0 k1 y173 l0 (l0.length : Int) (wrap64 (x8_1 + 1))) = some r := by first | (rw [hy173]; with_reducible exact H) | (have H2_ := (Option.bind_some _ _).symm.trans H; rw [hy173]; with_reducible exact H2_) | (have H2_ := (Option.bind_some _ _).symm.trans H; with_reducible exact H2_) | with_reducible exact H | (rw [hy173]; exact H) | exact H
           have Ny173 := Aside0.mk hy173
           clear hy173
           have H' := Aside0.mk H
           clear H
           have p172 : 0 ≤ (x8_1 : Int) := of_decide_eq_true (by first | (with_reducible assumption) | assumption)
           have q172 : x8_1 < (l0.length : Int) := of_decide_eq_true (by first | (with_reducible assumption) | assumption)
           obtain ⟨ad172, e172, hx172_0⟩ := Kd.at_int HR0.out x8_1 p172 q172
           cases e172
           replace hx172_0 := (HB.out.cell (World.block_lt_of_cell? w _ hx172_0)).trans hx172_0
           replace p172 := eq_true p172
           replace q172 := eq_true q172
           go_wp2_with (first | ((with_reducible refine gate_builtin (b := .append) (xs := #[.tmp 12, .tmp 15]) rfl ?_); at_builtin; refine Kd.R_append (Kd.int .i64) (w0 := w) w.heap.size rfl (.tmp 12) (.tmp 15) 22 3 (.int .i64 0) 8 rfl Tryz.underlying22 info3 rfl (by decide) (by omega) u3 x3_1 (wrap64 (-(rd l0 x8_1))) [.int .i64 (wrap64 (-(rd l0 x8_1)))] (fun _ => True) (fun _ => False) rfl rfl ?aP (fun _ hk => hk.elim) ?aF ?aO ?aB ?aS ?aL ?_; (case aP => exact rfl); (case aB => exact (by repeat (first | (with_reducible first | exact HB.out | apply below_alloc | apply pw_below_drewN | apply below_drew1) | exact HB.out))); (case aF => exact (fun _ _ => trivial)); (case aO => exact (qR HO_3.out)); (case aS => exact (below_size (by repeat (first | (with_reducible first | exact HB.out | apply below_alloc | apply pw_below_drewN | apply below_drew1) | exact HB.out)))); (case aL => have := LMc5.out; omega); intro v174 w6 ho hb hg hat; rw [← Ny173.out] at ho; have n0_ := Aside0.mk (hb); have n1_ := Aside0.mk (ho); clear HB; clear HO_3; have HB := n0_; have HO175 := n1_; clear n0_ n1_; clear ho hb hg hat))
           go_roundg k1
           case measure => have := HK1.out; omega
           case rel => exact ⟨(y173), (wrap64 (x8_1 + 1)), (by first | rfl | (simp; done) | (simp [*]; done) | (simp [wrap64]; done)), H', ⟨by have := HK1.out; omega⟩, ⟨by (with_reducible repeat (first | apply Kd.R_alloc | apply Kd.R_drewN | apply Kd.R_drew)); exact HO175.out⟩, ⟨by repeat (first | (with_reducible first | exact HB.out | apply below_alloc | apply pw_below_drewN | apply below_drew1) | exact HB.out)⟩⟩
         · rw [if_neg c5] at H
           exact absurd H (by simp)
       · rw [if_neg c4] at H
         exact absurd H (by simp)
     · rw [if_neg c3] at H
       exact absurd H (by simp)
   · rw [if_neg c2] at H
     have c2b0 : decide (x8_1 < (l0.length : Int)) = false := decide_eq_false c2
     clear c2
     obtain rfl := Option.some.inj H
     go_wp2
     go_ret
     exact ⟨_, by first | rfl | (simp [errW_none, errW_some] <;> rfl) | (simp [*, errW_none, errW_some] <;> rfl), by (with_reducible repeat (first | apply Kd.R_alloc | apply Kd.R_drewN | apply Kd.R_drew)); exact HO_3.out, by repeat (first | (with_reducible first | exact HB.out | apply below_alloc | apply pw_below_drewN | apply below_drew1) | exact HB.out)⟩

/-! ### beam_Slope: function 12 -/
def beam_Slope.j0 : Nat → List Int → Bool → Bool → Option (List Int × Int)
 | 0, _, _, _ => none
 | k + 1, x0, x1, x7 => if x7 = true then ((beam_told.f (some 230)).bind fun t177 => (some (([] : List Int), t177))) else (if x1 = true then ((beam_over.f k x0).bind fun t178 => (some (t178, 0))) else ((beam_turned.f k x0).bind fun t181 => ((beam_over.f k t181).bind fun t184 => ((beam_turned.f k t184).bind fun t187 => (some (t187, 0))))))
def beam_Slope.f (k : Nat) (l0 : List Int) (a1 : Bool) : Option (List Int × Int) := if (l0.length : Int) < 2 then (beam_Slope.j0 k l0 a1 (decide ((l0.length : Int) < 2))) else (if (l0.length : Int) > 64 then (beam_Slope.j0 k l0 a1 (decide ((l0.length : Int) > 64))) else ((beam_Slope_1.f l0).bind fun t176 => (beam_Slope.j0 k l0 a1 t176)))
theorem beam_Slope.mono_l : ∀ k, (∀ y0 y1 y2, LeO (beam_Slope.j0 k y0 y1 y2) (beam_Slope.j0 (k + 1) y0 y1 y2))
 | 0 => fun _ _ _ r h => by simp [beam_Slope.j0] at h
 | k + 1 => by
  have ih0 := beam_Slope.mono_l k
  · intro y0 y1 y2
    unfold beam_Slope.j0
    repeat' first
    | (with_reducible exact ih0 _ _ _)
    | (with_reducible exact beam_over.mono _ _)
    | (with_reducible exact beam_turned.mono _ _)
    | (with_reducible exact LeO.refl _)
    | (with_reducible exact LeO.none _)
    | (with_reducible refine LeO.ite ?_ ?_)
    | (with_reducible refine LeO.bind ?_ (fun _ => ?_))
    | exact ih0 _ _ _
    | exact beam_over.mono _ _
    | exact beam_turned.mono _ _
    | exact LeO.none _
    | refine LeO.ite ?_ ?_
    | refine LeO.bind ?_ (fun _ => ?_)
theorem beam_Slope.mono : ∀ a0 a1 k, LeO (beam_Slope.f k a0 a1) (beam_Slope.f (k + 1) a0 a1) := by
 intro a0 a1 k
 have ih0 := beam_Slope.mono_l k
 unfold beam_Slope.f
 repeat' first
  | (with_reducible exact ih0 _ _ _)
  | (with_reducible exact beam_over.mono _ _)
  | (with_reducible exact beam_turned.mono _ _)
  | (with_reducible exact LeO.refl _)
  | (with_reducible exact LeO.none _)
  | (with_reducible refine LeO.ite ?_ ?_)
  | (with_reducible refine LeO.bind ?_ (fun _ => ?_))
  | exact ih0 _ _ _
  | exact beam_over.mono _ _
  | exact beam_turned.mono _ _
  | exact LeO.none _
  | refine LeO.ite ?_ ?_
  | refine LeO.bind ?_ (fun _ => ?_)
set_option maxHeartbeats 8000000 in
set_option maxRecDepth 100000 in
theorem beam_Slope.calls (k : Nat) (A0 : Option Addr) (c0 : Nat) (l0 : List Int) (a1 : Bool) (r1 : List Int) (r2 : Int) (w : World) (hr0 : Kd.C (Kd.int .i64) w A0 l0.length l0) (hc0 : l0.length ≤ c0) (h : beam_Slope.f k l0 a1 = some (r1, r2)) (SENTS : Aside0 (SentsE w) := by exact sents_step (by assumption) (by repeat (first | (with_reducible first | exact (by assumption : Aside0 (Below _ _ _)).out | apply below_alloc | apply pw_below_drewN | apply below_drew1 | refine below_set ?_ (Aside0.out (by assumption)))))) :
 Calls Tryz.prog 12 #[.slice A0 l0.length c0, .bool a1] w fun e w' => ∃ v0_ : Value, e = .returned (.tuple #[v0_, .int .i64 r2]) ∧ Kd.R (Kd.int .i64) 3 w' w.heap.size (fun _ => True) v0_ r1 ∧ Below w.heap.size w w' := by
 have hu60 := Tryz.underlying60
 have hu64 := Tryz.underlying64
 have HR0 := Aside0.mk hr0
 have HC0 := Aside0.mk hc0
 clear hr0 hc0
 have HB := Aside0.mk (Below.refl w.heap.size w)
 have H : (if (l0.length : Int) < 2 then (beam_Slope.j0 k l0 a1 (decide ((l0.length : Int) < 2))) else (if (l0.length : Int) > 64 then (beam_Slope.j0 k l0 a1 (decide ((l0.length : Int) > 64))) else ((beam_Slope_1.f l0).bind fun t176 => (beam_Slope.j0 k l0 a1 t176)))) = some (r1, r2) := h
 clear h
 have HC3 := Aside0.mk H
 clear H
 go_enter Tryz.func12, Tryz.ntmps12
 go_upto_if 7 with (fail)
 go_cut [7] (fun v7 wc => ∃ (kq : Nat) (x7_2 : Bool), v7 = .bool x7_2 ∧ Aside0 (beam_Slope.j0 kq l0 a1 x7_2 = some (r1, r2)) ∧ Aside0 (kq ≤ k) ∧ Aside0 (Below w.heap.size w wc))
 case first =>
  have H := HC3.out
  clear HC3
  by_cases c4 : (l0.length : Int) < 2
  · rw [if_pos c4] at H
    have c4b0 : decide ((l0.length : Int) < 2) = true := decide_eq_true c4
    have c4b1 : decide (l0.length < 2) = true := decide_eq_true (by omega)
    clear c4
    (first | rw [c4b0] | (simp only [i64_w, i32_w]; rw [c4b0]) | skip)
    have H' := Aside0.mk H
    clear H
    go_wp2
    go_meet
    case rel => exact ⟨_, (decide ((l0.length : Int) < 2)), (by first | rfl | (simp; done) | (simp [*]; done) | (simp [wrap64]; done)), H', ⟨by first | omega | exact Nat.le_refl _⟩, ⟨by repeat (first | (with_reducible first | exact HB.out | apply below_alloc | apply pw_below_drewN | apply below_drew1) | exact HB.out)⟩⟩
  · rw [if_neg c4] at H
    have c4b0 : decide ((l0.length : Int) < 2) = false := decide_eq_false c4
    have c4b1 : decide (l0.length < 2) = false := decide_eq_false (by omega)
    clear c4
    (first | rw [c4b0] | (simp only [i64_w, i32_w]; rw [c4b0]) | skip)
    by_cases c5 : (l0.length : Int) > 64
    · rw [if_pos c5] at H
      have c5b0 : decide (64 < (l0.length : Int)) = true := decide_eq_true c5
      have c5b1 : decide (64 < l0.length) = true := decide_eq_true (by omega)
      clear c5
      have H' := Aside0.mk H
      clear H
      go_wp2
      go_meet
      case rel => exact ⟨_, (decide ((l0.length : Int) > 64)), (by first | rfl | (simp; done) | (simp [*]; done) | (simp [wrap64]; done)), H', ⟨by first | omega | exact Nat.le_refl _⟩, ⟨by repeat (first | (with_reducible first | exact HB.out | apply below_alloc | apply pw_below_drewN | apply below_drew1) | exact HB.out)⟩⟩
    · rw [if_neg c5] at H
      have c5b0 : decide (64 < (l0.length : Int)) = false := decide_eq_false c5
      have c5b1 : decide (64 < l0.length) = false := decide_eq_false (by omega)
      clear c5
      replace H := Option.bind_eq_some_iff.mp H
      obtain ⟨t176, A60, H⟩ := H
      replace H : (beam_Slope.j0 k l0 a1 t176) = some (r1, r2) := H
      have A6 := Aside0.mk A60
      clear A60
      have H' := Aside0.mk H
      clear H
      go_wp2_with (first | ((with_reducible refine gate_callee (f := 23) rfl ?_); refine goesL_ (some 16) rfl rfl Tryz.func23 (by kernel_rfl) rfl #[.slice A0 l0.length c0, .func (.func 22) #[] #[]] rfl (by (try simp only [List.map_toArray, List.map_cons, List.map_nil]); first | done | rfl | (simp only [List.length_drop, List.length_take]; rfl)) ?_; (with_reducible refine (beam_Slope_1.calls _ _ l0 t176 _ ?side1 ?side2 A6.out).mono ?_); (case side1 => repeat (first | exact (Kd.C_below HR0.out HB.out) | (with_reducible refine Kd.C_alloc ?_ _) | (with_reducible refine Kd.C_drewN ?_ _) | (with_reducible refine Kd.C_drew ?_))); (case side2 => exact HC0.out); rintro e w7 ⟨rfl, hb⟩; refine ⟨_, rfl, ?_⟩; have n0_ := Aside0.mk (below_step (by repeat (first | (with_reducible first | exact HB.out | apply below_alloc | apply pw_below_drewN | apply below_drew1) | exact HB.out)) hb); clear HB; have HB := n0_; clear n0_; (try clear hb); (try clear hb2); (try clear hk); (try clear hi)))
      go_meet
      case rel => exact ⟨_, (t176), (by first | rfl | (simp; done) | (simp [*]; done) | (simp [wrap64]; done)), H', ⟨by first | omega | exact Nat.le_refl _⟩, ⟨by repeat (first | (with_reducible first | exact HB.out | apply below_alloc | apply pw_below_drewN | apply below_drew1) | exact HB.out)⟩⟩
 case rest =>
  clear HC3
  try clear c1
  try clear c2
  try clear p2
  try clear c4
  try clear c4b0
  try clear c4b1
  try clear c5
  try clear c5b0
  try clear c5b1
  obtain ⟨kq, x7_2, rfl, HA, HJ2, HB⟩ := hcut
  cases kq with
  | zero => exact absurd HA.out (by simp [beam_Slope.j0])
  | succ kj2 =>
   have H := HA.out
   clear HA
   simp only [beam_Slope.j0] at H
   by_cases c8 : x7_2 = true
   · subst c8
     have H1 : ((beam_told.f (some 230)).bind fun t177 => (some (([] : List Int), t177))) = some (r1, r2) := by rw [if_pos rfl] at H; exact H
     clear H
     have H := H1
     clear H1
     replace H := Option.bind_eq_some_iff.mp H
     obtain ⟨t177, A90, H⟩ := H
     replace H : (some (([] : List Int), t177)) = some (r1, r2) := H
     have A9 := Aside0.mk A90
     clear A90
     simp only [Option.some.injEq, Prod.mk.injEq] at H
     obtain ⟨rfl, rfl⟩ := H
     have CA9 := fun W SE => beam_told.calls (some 230) t177 W A9.out SE
     try simp only [errW_none, errW_some] at CA9
     go_wp2_with (first | (go_at_call 24; (with_reducible refine (CA9 _ (by exact sents_step (by assumption) (by repeat (first | (with_reducible first | exact (by assumption : Aside0 (Below _ _ _)).out | apply below_alloc | apply pw_below_drewN | apply below_drew1 | refine below_set ?_ (Aside0.out (by assumption))))))).mono ?_); rintro e w10 ⟨rfl, hb⟩; have n0_ := Aside0.mk (below_step (by repeat (first | (with_reducible first | exact HB.out | apply below_alloc | apply pw_below_drewN | apply below_drew1) | exact HB.out)) hb); clear HB; have HB := n0_; clear n0_; (try clear hb); (try clear hb2); (try clear hk); (try clear hi)))
     go_ret2
     exact ⟨_, by first | rfl | (simp [errW_none, errW_some] <;> rfl) | (simp [*, errW_none, errW_some] <;> rfl), by first | exact Kd.R_nil _ _ _ _ _ | exact Kd.N_nil _ _ _ _ _ | exact Kd.V_nil _ _ _ _ _ | exact Kd.Q_nil _ _ _ _ _ | exact Kd.S_nil _ _ _ _ _, by repeat (first | (with_reducible first | exact HB.out | apply below_alloc | apply pw_below_drewN | apply below_drew1) | exact HB.out)⟩
   · replace c8 := Bool.eq_false_iff.mpr c8
     subst c8
     have H1 : (if a1 = true then ((beam_over.f kj2 l0).bind fun t178 => (some (t178, 0))) else ((beam_turned.f kj2 l0).bind fun t181 => ((beam_over.f kj2 t181).bind fun t184 => ((beam_turned.f kj2 t184).bind fun t187 => (some (t187, 0)))))) = some (r1, r2) := by rw [if_neg (show ¬ (false = true) by decide)] at H; exact H
     clear H
     have H := H1
     clear H1
     by_cases c11 : a1 = true
     · subst c11
       have H1 : ((beam_over.f kj2 l0).bind fun t178 => (some (t178, 0))) = some (r1, r2) := by rw [if_pos rfl] at H; exact H
       clear H
       have H := H1
       clear H1
       replace H := Option.bind_eq_some_iff.mp H
       obtain ⟨t178, A120, H⟩ := H
       replace H : (some (t178, 0)) = some (r1, r2) := H
       have A12 := Aside0.mk A120
       clear A120
       simp only [Option.some.injEq, Prod.mk.injEq] at H
       obtain ⟨rfl, rfl⟩ := H
       go_wp2_with (first | ((with_reducible refine gate_callee (f := 25) rfl ?_); refine goesL_ (some 23) rfl rfl Tryz.func25 (by kernel_rfl) rfl #[.slice A0 l0.length c0] rfl (by (try simp only [List.map_toArray, List.map_cons, List.map_nil]); first | done | rfl | (simp only [List.length_drop, List.length_take]; rfl)) ?_; (with_reducible refine (beam_over.calls kj2 _ _ l0 t178 _ ?side1 ?side2 A12.out).mono ?_); (case side1 => repeat (first | exact (Kd.C_below HR0.out HB.out) | (with_reducible refine Kd.C_alloc ?_ _) | (with_reducible refine Kd.C_drewN ?_ _) | (with_reducible refine Kd.C_drew ?_))); (case side2 => exact HC0.out); rintro e w13 ⟨v179, rfl, ho0, hb⟩; refine ⟨_, rfl, ?_⟩; have n0_ := Aside0.mk (Kd.R_lower ho0 (below_size (by repeat (first | (with_reducible first | exact HB.out | apply below_alloc | apply pw_below_drewN | apply below_drew1) | exact HB.out)))); have n1_ := Aside0.mk (below_step (by repeat (first | (with_reducible first | exact HB.out | apply below_alloc | apply pw_below_drewN | apply below_drew1) | exact HB.out)) hb); clear HB; have HO180 := n0_; have HB := n1_; clear n0_ n1_; (try clear hb); (try clear hb2); (try clear hk); (try clear hi); (try clear ho0)))
       go_ret2
       exact ⟨_, by first | rfl | (simp [errW_none, errW_some] <;> rfl) | (simp [*, errW_none, errW_some] <;> rfl), by (with_reducible repeat (first | apply Kd.R_alloc | apply Kd.R_drewN | apply Kd.R_drew)); exact HO180.out, by repeat (first | (with_reducible first | exact HB.out | apply below_alloc | apply pw_below_drewN | apply below_drew1) | exact HB.out)⟩
     · replace c11 := Bool.eq_false_iff.mpr c11
       subst c11
       have H1 : ((beam_turned.f kj2 l0).bind fun t181 => ((beam_over.f kj2 t181).bind fun t184 => ((beam_turned.f kj2 t184).bind fun t187 => (some (t187, 0))))) = some (r1, r2) := by rw [if_neg (show ¬ (false = true) by decide)] at H; exact H
       clear H
       have H := H1
       clear H1
       replace H := Option.bind_eq_some_iff.mp H
       obtain ⟨t181, A140, H⟩ := H
       replace H : ((beam_over.f kj2 t181).bind fun t184 => ((beam_turned.f kj2 t184).bind fun t187 => (some (t187, 0)))) = some (r1, r2) := H
       have A14 := Aside0.mk A140
       clear A140
       replace H := Option.bind_eq_some_iff.mp H
       obtain ⟨t184, A150, H⟩ := H
       replace H : ((beam_turned.f kj2 t184).bind fun t187 => (some (t187, 0))) = some (r1, r2) := H
       have A15 := Aside0.mk A150
       clear A150
       replace H := Option.bind_eq_some_iff.mp H
       obtain ⟨t187, A160, H⟩ := H
       replace H : (some (t187, 0)) = some (r1, r2) := H
       have A16 := Aside0.mk A160
       clear A160
       simp only [Option.some.injEq, Prod.mk.injEq] at H
       obtain ⟨rfl, rfl⟩ := H
       go_wp2_with (first | ((with_reducible refine gate_callee (f := 26) rfl ?_); refine goesL_ (some 25) rfl rfl Tryz.func26 (by kernel_rfl) rfl #[.slice A0 l0.length c0] rfl (by (try simp only [List.map_toArray, List.map_cons, List.map_nil]); first | done | rfl | (simp only [List.length_drop, List.length_take]; rfl)) ?_; (with_reducible refine (beam_turned.calls kj2 _ _ l0 t181 _ ?side1 ?side2 A14.out).mono ?_); (case side1 => repeat (first | exact (Kd.C_below HR0.out HB.out) | (with_reducible refine Kd.C_alloc ?_ _) | (with_reducible refine Kd.C_drewN ?_ _) | (with_reducible refine Kd.C_drew ?_))); (case side2 => exact HC0.out); rintro e w17 ⟨v182, rfl, ho0, hb⟩; refine ⟨_, rfl, ?_⟩; have n0_ := Aside0.mk (Kd.R_lower ho0 (below_size (by repeat (first | (with_reducible first | exact HB.out | apply below_alloc | apply pw_below_drewN | apply below_drew1) | exact HB.out)))); have n1_ := Aside0.mk (below_step (by repeat (first | (with_reducible first | exact HB.out | apply below_alloc | apply pw_below_drewN | apply below_drew1) | exact HB.out)) hb); clear HB; have HO183 := n0_; have HB := n1_; clear n0_ n1_; (try clear hb); (try clear hb2); (try clear hk); (try clear hi); (try clear ho0); obtain ⟨Ao18, co18, eo18⟩ := Kd.R_slice HO183.out; subst eo18) | ((with_reducible refine gate_callee (f := 25) rfl ?_); refine goesL_ (some 26) rfl rfl Tryz.func25 (by kernel_rfl) rfl #[.slice Ao18 t181.length co18] rfl (by (try simp only [List.map_toArray, List.map_cons, List.map_nil]); first | done | rfl | (simp only [List.length_drop, List.length_take]; rfl)) ?_; (with_reducible refine (beam_over.calls kj2 _ _ t181 t184 _ ?side1 ?side2 A15.out).mono ?_); (case side1 => repeat (first | exact (Kd.R_reads' HO183.out).2.2 | (with_reducible refine Kd.C_alloc ?_ _) | (with_reducible refine Kd.C_drewN ?_ _) | (with_reducible refine Kd.C_drew ?_))); (case side2 => exact (Kd.R_reads' HO183.out).2.1); rintro e w19 ⟨v185, rfl, ho0, hb⟩; refine ⟨_, rfl, ?_⟩; have n0_ := Aside0.mk (Kd.R_elder' (qR HO183.out) (Kd.R_base ho0) hb); have n1_ := Aside0.mk (Kd.R_lower (Kd.R_new' ho0 (Kd.R_lt (qR HO183.out))) (below_size (by repeat (first | (with_reducible first | exact HB.out | apply below_alloc | apply pw_below_drewN | apply below_drew1) | exact HB.out)))); have n2_ := Aside0.mk (below_step (by repeat (first | (with_reducible first | exact HB.out | apply below_alloc | apply pw_below_drewN | apply below_drew1) | exact HB.out)) hb); clear HO183; clear HB; have HO183 := n0_; have HO186 := n1_; have HB := n2_; clear n0_ n1_ n2_; (try clear hb); (try clear hb2); (try clear hk); (try clear hi); (try clear ho0); obtain ⟨Ao20, co20, eo20⟩ := Kd.R_slice HO186.out; subst eo20) | ((with_reducible refine gate_callee (f := 26) rfl ?_); refine goesL_ (some 27) rfl rfl Tryz.func26 (by kernel_rfl) rfl #[.slice Ao20 t184.length co20] rfl (by (try simp only [List.map_toArray, List.map_cons, List.map_nil]); first | done | rfl | (simp only [List.length_drop, List.length_take]; rfl)) ?_; (with_reducible refine (beam_turned.calls kj2 _ _ t184 t187 _ ?side1 ?side2 A16.out).mono ?_); (case side1 => repeat (first | exact (Kd.R_reads' HO186.out).2.2 | (with_reducible refine Kd.C_alloc ?_ _) | (with_reducible refine Kd.C_drewN ?_ _) | (with_reducible refine Kd.C_drew ?_))); (case side2 => exact (Kd.R_reads' HO186.out).2.1); rintro e w21 ⟨v188, rfl, ho0, hb⟩; refine ⟨_, rfl, ?_⟩; have n0_ := Aside0.mk (Kd.R_elder' (qR HO183.out) (Kd.R_base ho0) hb); have n1_ := Aside0.mk (Kd.R_elder' (qR HO186.out) (Kd.R_base ho0) hb); have n2_ := Aside0.mk (Kd.R_lower (Kd.R_new' (Kd.R_new' ho0 (Kd.R_lt (qR HO183.out))) (Kd.R_lt (qR HO186.out))) (below_size (by repeat (first | (with_reducible first | exact HB.out | apply below_alloc | apply pw_below_drewN | apply below_drew1) | exact HB.out)))); have n3_ := Aside0.mk (below_step (by repeat (first | (with_reducible first | exact HB.out | apply below_alloc | apply pw_below_drewN | apply below_drew1) | exact HB.out)) hb); clear HO183; clear HO186; clear HB; have HO183 := n0_; have HO186 := n1_; have HO189 := n2_; have HB := n3_; clear n0_ n1_ n2_ n3_; (try clear hb); (try clear hb2); (try clear hk); (try clear hi); (try clear ho0)))
       go_ret2
       exact ⟨_, by first | rfl | (simp [errW_none, errW_some] <;> rfl) | (simp [*, errW_none, errW_some] <;> rfl), by (with_reducible repeat (first | apply Kd.R_alloc | apply Kd.R_drewN | apply Kd.R_drew)); exact Kd.R_mono HO189.out (fun _ hk => trivial), by repeat (first | (with_reducible first | exact HB.out | apply below_alloc | apply pw_below_drewN | apply below_drew1) | exact HB.out)⟩

end Go.Proofs.YtocjbedacnlaaaaGreatDoor.Q
