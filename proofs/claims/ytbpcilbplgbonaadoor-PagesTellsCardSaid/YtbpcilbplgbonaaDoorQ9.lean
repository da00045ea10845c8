-- Written by a program of this session (myprint.py), function by function.
import Derived.Test.YtbpcilbplgbonaaDoorQ0
import Derived.Test.YtbpcilbplgbonaaDoorQ7
import Derived.Test.YtbpcilbplgbonaaDoorWAt
import Derived.Test.YtbpcilbplgbonaaDoorWN
import Derived.Test.YtbpcilbplgbonaaDoorWNEv
namespace Go.Proofs.YtbpcilbplgbonaaDoor.Q
open Go.RowKit Go.Proofs.YtbpcilbplgbonaaDoorW.PrintWords Go.Proofs.YtbpcilbplgbonaaDoorW.PrintLast Go.Proofs.YtbpcilbplgbonaaDoorW.PrintMore
attribute [local go_sem] max2_int min2_int max_two min_two max_three min_three max_four min_four   -- for this text's walks alone
set_option linter.unusedVariables false
set_option linter.unusedSimpArgs false

/-! ### partitaref26_Cost: function 15 -/
mutual
def partitaref26_Cost.l0 : Nat → List (S37) → List Int → Int → Int → Int → Int → Int → Option (Int × Bool)
 | 0, _, _, _, _, _, _, _ => none
 | k + 1, x0, x1, x2, x3, x10, x11, x12 => if x12 < (x0.length : Int) then (if 0 ≤ x12 then (if ((rd_T37 x0 x12).f0) = x10 then (if ((rd_T37 x0 x12).f1) ≤ x10 then (partitaref26_Cost.j1 k x0 x1 x2 x3 x10 x11 x12 true) else (partitaref26_Cost.j1 k x0 x1 x2 x3 x10 x11 x12 (decide (((rd_T37 x0 x12).f1) > (x1.length : Int))))) else (partitaref26_Cost.j1 k x0 x1 x2 x3 x10 x11 x12 true)) else (none)) else (if x10 = (x1.length : Int) then (some (x11, true)) else (some (0, false)))
def partitaref26_Cost.j1 : Nat → List (S37) → List Int → Int → Int → Int → Int → Int → Bool → Option (Int × Bool)
 | 0, _, _, _, _, _, _, _, _ => none
 | k + 1, x0, x1, x2, x3, x10, x11, x12, x50 => if x50 = true then (some (0, false)) else (if 0 ≤ x12 then (if x12 < (x0.length : Int) then ((partitaref26_rest.f k x1 x2 x3 x10 ((rd_T37 x0 x12).f1)).bind fun t243 => (if t243 < 0 then (some (0, false)) else (if ((rd_T37 x0 x12).f1) < (x1.length : Int) then (partitaref26_Cost.l0 k x0 x1 x2 x3 ((rd_T37 x0 x12).f1) (wrap64 (x11 + (wrap64 (t243 * t243)))) (wrap64 (x12 + 1))) else (partitaref26_Cost.l0 k x0 x1 x2 x3 ((rd_T37 x0 x12).f1) x11 (wrap64 (x12 + 1)))))) else (none)) else (none))
end
def partitaref26_Cost.f (k : Nat) (l0 : List (S37)) (l1 : List Int) (a2 : Int) (a3 : Int) : Option (Int × Bool) := (partitaref26_lay.f k l1 a2 a3).bind fun t238 => (if t238 = true then (partitaref26_Cost.l0 k l0 l1 a2 a3 0 0 0) else (some (0, false)))
theorem partitaref26_Cost.mono_l : ∀ k, (∀ y0 y1 y2 y3 y4 y5 y6, LeO (partitaref26_Cost.l0 k y0 y1 y2 y3 y4 y5 y6) (partitaref26_Cost.l0 (k + 1) y0 y1 y2 y3 y4 y5 y6)) ∧ (∀ y0 y1 y2 y3 y4 y5 y6 y7, LeO (partitaref26_Cost.j1 k y0 y1 y2 y3 y4 y5 y6 y7) (partitaref26_Cost.j1 (k + 1) y0 y1 y2 y3 y4 y5 y6 y7))
 | 0 => ⟨fun _ _ _ _ _ _ _ r h => by simp [partitaref26_Cost.l0] at h, fun _ _ _ _ _ _ _ _ r h => by simp [partitaref26_Cost.j1] at h⟩
 | k + 1 => by
  obtain ⟨ih0, ih1⟩ := partitaref26_Cost.mono_l k
  refine ⟨?_, ?_⟩
  · intro y0 y1 y2 y3 y4 y5 y6
    unfold partitaref26_Cost.l0
    repeat' first
    | (with_reducible exact ih0 _ _ _ _ _ _ _)
    | (with_reducible exact ih1 _ _ _ _ _ _ _ _)
    | (with_reducible exact partitaref26_lay.mono _ _ _ _)
    | (with_reducible exact partitaref26_rest.mono _ _ _ _ _ _)
    | (with_reducible exact LeO.refl _)
    | (with_reducible exact LeO.none _)
    | (with_reducible refine LeO.ite ?_ ?_)
    | (with_reducible refine LeO.bind ?_ (fun _ => ?_))
    | exact ih0 _ _ _ _ _ _ _
    | exact ih1 _ _ _ _ _ _ _ _
    | exact partitaref26_lay.mono _ _ _ _
    | exact partitaref26_rest.mono _ _ _ _ _ _
    | exact LeO.none _
    | refine LeO.ite ?_ ?_
    | refine LeO.bind ?_ (fun _ => ?_)
  · intro y0 y1 y2 y3 y4 y5 y6 y7
    unfold partitaref26_Cost.j1
    repeat' first
    | (with_reducible exact ih0 _ _ _ _ _ _ _)
    | (with_reducible exact ih1 _ _ _ _ _ _ _ _)
    | (with_reducible exact partitaref26_lay.mono _ _ _ _)
    | (with_reducible exact partitaref26_rest.mono _ _ _ _ _ _)
    | (with_reducible exact LeO.refl _)
    | (with_reducible exact LeO.none _)
    | (with_reducible refine LeO.ite ?_ ?_)
    | (with_reducible refine LeO.bind ?_ (fun _ => ?_))
    | exact ih0 _ _ _ _ _ _ _
    | exact ih1 _ _ _ _ _ _ _ _
    | exact partitaref26_lay.mono _ _ _ _
    | exact partitaref26_rest.mono _ _ _ _ _ _
    | exact LeO.none _
    | refine LeO.ite ?_ ?_
    | refine LeO.bind ?_ (fun _ => ?_)
theorem partitaref26_Cost.mono : ∀ a0 a1 a2 a3 k, LeO (partitaref26_Cost.f k a0 a1 a2 a3) (partitaref26_Cost.f (k + 1) a0 a1 a2 a3) := by
 intro a0 a1 a2 a3 k
 obtain ⟨ih0, ih1⟩ := partitaref26_Cost.mono_l k
 unfold partitaref26_Cost.f
 repeat' first
  | (with_reducible exact ih0 _ _ _ _ _ _ _)
  | (with_reducible exact ih1 _ _ _ _ _ _ _ _)
  | (with_reducible exact partitaref26_lay.mono _ _ _ _)
  | (with_reducible exact partitaref26_rest.mono _ _ _ _ _ _)
  | (with_reducible exact LeO.refl _)
  | (with_reducible exact LeO.none _)
  | (with_reducible refine LeO.ite ?_ ?_)
  | (with_reducible refine LeO.bind ?_ (fun _ => ?_))
  | exact ih0 _ _ _ _ _ _ _
  | exact ih1 _ _ _ _ _ _ _ _
  | exact partitaref26_lay.mono _ _ _ _
  | exact partitaref26_rest.mono _ _ _ _ _ _
  | exact LeO.none _
  | refine LeO.ite ?_ ?_
  | refine LeO.bind ?_ (fun _ => ?_)
set_option maxHeartbeats 8000000 in
set_option maxRecDepth 100000 in
theorem partitaref26_Cost.calls (k : Nat) (A0 : Option Addr) (c0 : Nat) (l0 : List (S37)) (A1 : Option Addr) (c1 : Nat) (l1 : List Int) (a2 : Int) (a3 : Int) (r1 : Int) (r2 : Bool) (w : World) (hr0 : Kd.C k37 w A0 l0.length l0) (hc0 : l0.length ≤ c0) (hr1 : Kd.C (Kd.int .i64) w A1 l1.length l1) (hc1 : l1.length ≤ c1) (h : partitaref26_Cost.f k l0 l1 a2 a3 = some (r1, r2)) :
 Calls Tryd.prog 15 #[.slice A0 l0.length c0, .slice A1 l1.length c1, .int .i64 a2, .int .i64 a3] w fun e w' => e = .returned (.tuple #[.int .i64 r1, .bool r2]) ∧ Drawn0 w w' := by
 have HR0 := Aside0.mk hr0
 have HC0 := Aside0.mk hc0
 clear hr0 hc0
 have HR1 := Aside0.mk hr1
 have HC1 := Aside0.mk hc1
 clear hr1 hc1
 have H : ((partitaref26_lay.f k l1 a2 a3).bind fun t238 => (if t238 = true then (partitaref26_Cost.l0 k l0 l1 a2 a3 0 0 0) else (some (0, false)))) = some (r1, r2) := h
 clear h
 replace H := Option.bind_eq_some_iff.mp H
 obtain ⟨t238, A50, H⟩ := H
 replace H : (if t238 = true then (partitaref26_Cost.l0 k l0 l1 a2 a3 0 0 0) else (some (0, false))) = some (r1, r2) := H
 have A5 := Aside0.mk A50
 clear A50
 by_cases c6 : t238 = true
 · subst c6
   have H1 : (partitaref26_Cost.l0 k l0 l1 a2 a3 0 0 0) = some (r1, r2) := by rw [if_pos rfl] at H; exact H
   clear H
   have H := H1
   clear H1
   have H' := Aside0.mk H
   clear H
   go_enter Tryd.func15, Tryd.ntmps15
   go_wp2_with (first | ((with_reducible refine gate_callee (f := 23) rfl ?_); refine goesL_ (some 17) rfl rfl Tryd.func23 (by kernel_rfl) rfl #[.slice A1 l1.length c1, .int .i64 a2, .int .i64 a3] rfl (by (try simp only [List.map_toArray, List.map_cons, List.map_nil]); first | done | rfl | (simp only [List.length_drop, List.length_take]; rfl)) ?_; (with_reducible refine (partitaref26_lay.calls k _ _ l1 a2 a3 true _ ?side1 ?side2 A5.out).mono ?_); (case side1 => repeat (first | exact HR1.out | (with_reducible refine Kd.C_alloc ?_ _) | (with_reducible refine Kd.C_drewN ?_ _) | (with_reducible refine Kd.C_drew ?_))); (case side2 => exact HC1.out); rintro e w' ⟨rfl, ⟨nd, rfl⟩⟩; refine ⟨_, rfl, ?_⟩))
   go_loopg [10, 11, 12] k (fun kq v10 v11 v12 w' => ∃ (x10_1 : Int) (x11_1 : Int) (x12_1 : Int), v10 = .int .i64 x10_1 ∧ v11 = .int .i64 x11_1 ∧ v12 = .int .i64 x12_1 ∧ Aside0 (partitaref26_Cost.l0 kq l0 l1 a2 a3 x10_1 x11_1 x12_1 = some (r1, r2)) ∧ Aside0 (kq ≤ k) ∧ Drawn0 w w')
   case atStart => exact ⟨(0), (0), (0), (by first | rfl | (simp; done) | (simp [*]; done) | (simp [wrap64]; done)), (by first | rfl | (simp; done) | (simp [*]; done) | (simp [wrap64]; done)), (by first | rfl | (simp; done) | (simp [*]; done) | (simp [wrap64]; done)), H', ⟨Nat.le_refl _⟩, by repeat (first | exact Drawn0.refl _ | apply Drawn0.step)⟩
   case round =>
    clear H'
    try clear c1
    try clear c2
    try clear p2
    try clear c6
    obtain ⟨x10_1, x11_1, x12_1, rfl, rfl, rfl, HA, HK1, ⟨m1, rfl⟩⟩ := hrel
    cases gk with
    | zero => exact absurd HA.out (by simp [partitaref26_Cost.l0])
    | succ k1 =>
     have H := HA.out
     clear HA
     simp only [partitaref26_Cost.l0] at H
     by_cases c7 : x12_1 < (l0.length : Int)
     · rw [if_pos c7] at H
       have c7b0 : decide (x12_1 < (l0.length : Int)) = true := decide_eq_true c7
       clear c7
       have HC8 := Aside0.mk H
       clear H
       go_upto_region 8 with (fail)
       go_cut [50] (fun v50 wc => ∃ (kq : Nat) (x50_7 : Bool), v50 = .bool x50_7 ∧ Aside0 (partitaref26_Cost.j1 kq l0 l1 a2 a3 x10_1 x11_1 x12_1 x50_7 = some (r1, r2)) ∧ Aside0 (kq ≤ k1) ∧ Drawn0 w wc)
       case first =>
        have H := HC8.out
        clear HC8
        by_cases c9 : 0 ≤ x12_1
        · rw [if_pos c9] at H
          have c9b0 : decide (0 ≤ x12_1) = true := decide_eq_true c9
          clear c9
          (first | rw [c9b0] | (simp only [i64_w, i32_w]; rw [c9b0]) | skip)
          by_cases c10 : ((rd_T37 l0 x12_1).f0) = x10_1
          · rw [if_pos c10] at H
            have c10b0 : (((rd_T37 l0 x12_1).f0) == x10_1) = true := beq_iff_eq.mpr c10
            have c10b1 : (((rd_T37 l0 x12_1).f0) != x10_1) = false := bne_eq_false_iff_eq.mpr c10
            clear c10
            by_cases c11 : ((rd_T37 l0 x12_1).f1) ≤ x10_1
            · rw [if_pos c11] at H
              have c11b0 : decide (((rd_T37 l0 x12_1).f1) ≤ x10_1) = true := decide_eq_true c11
              clear c11
              have H' := Aside0.mk H
              clear H
              have p239 : 0 ≤ (x12_1 : Int) := of_decide_eq_true (by first | (with_reducible assumption) | assumption)
              have q239 : x12_1 < (l0.length : Int) := of_decide_eq_true (by first | (with_reducible assumption) | assumption)
              obtain ⟨ad239, A239_2, c239_2, e239, hx239_0, hx239_1, hx239_2, hl239_2, hi239_2⟩ := at_T37 HR0.out x12_1 p239 q239
              cases e239
              have HR239_2 := Aside0.mk hi239_2
              have HC239_2 := Aside0.mk hl239_2
              clear hi239_2 hl239_2
              replace p239 := eq_true p239
              replace q239 := eq_true q239
              have p240 : 0 ≤ (x12_1 : Int) := of_decide_eq_true (by first | (with_reducible assumption) | assumption)
              have q240 : x12_1 < (l0.length : Int) := of_decide_eq_true (by first | (with_reducible assumption) | assumption)
              obtain ⟨ad240, A240_2, c240_2, e240, hx240_0, hx240_1, hx240_2, hl240_2, hi240_2⟩ := at_T37 HR0.out x12_1 p240 q240
              obtain rfl : ad239 = ad240 := (by injection e240)
              have HR240_2 := Aside0.mk hi240_2
              have HC240_2 := Aside0.mk hl240_2
              clear hi240_2 hl240_2
              replace p240 := eq_true p240
              replace q240 := eq_true q240
              have ea_ := Option.some.inj (hx239_2.symm.trans hx240_2)
              injection ea_ with ea_ en_ ec_
              subst ea_
              subst ec_
              clear en_
              go_wp2
              go_meet
              case rel => exact ⟨_, (true), (by first | rfl | (simp; done) | (simp [*]; done) | (simp [wrap64]; done)), H', ⟨by have := HK1.out; first | omega | exact Nat.le_refl _⟩, by repeat (first | exact Drawn0.refl _ | apply Drawn0.step)⟩
            · rw [if_neg c11] at H
              have c11b0 : decide (((rd_T37 l0 x12_1).f1) ≤ x10_1) = false := decide_eq_false c11
              clear c11
              have H' := Aside0.mk H
              clear H
              have p239 : 0 ≤ (x12_1 : Int) := of_decide_eq_true (by first | (with_reducible assumption) | assumption)
              have q239 : x12_1 < (l0.length : Int) := of_decide_eq_true (by first | (with_reducible assumption) | assumption)
              obtain ⟨ad239, A239_2, c239_2, e239, hx239_0, hx239_1, hx239_2, hl239_2, hi239_2⟩ := at_T37 HR0.out x12_1 p239 q239
              cases e239
              have HR239_2 := Aside0.mk hi239_2
              have HC239_2 := Aside0.mk hl239_2
              clear hi239_2 hl239_2
              replace p239 := eq_true p239
              replace q239 := eq_true q239
              have p240 : 0 ≤ (x12_1 : Int) := of_decide_eq_true (by first | (with_reducible assumption) | assumption)
              have q240 : x12_1 < (l0.length : Int) := of_decide_eq_true (by first | (with_reducible assumption) | assumption)
              obtain ⟨ad240, A240_2, c240_2, e240, hx240_0, hx240_1, hx240_2, hl240_2, hi240_2⟩ := at_T37 HR0.out x12_1 p240 q240
              obtain rfl : ad239 = ad240 := (by injection e240)
              have HR240_2 := Aside0.mk hi240_2
              have HC240_2 := Aside0.mk hl240_2
              clear hi240_2 hl240_2
              replace p240 := eq_true p240
              replace q240 := eq_true q240
              have ea_ := Option.some.inj (hx239_2.symm.trans hx240_2)
              injection ea_ with ea_ en_ ec_
              subst ea_
              subst ec_
              clear en_
              have p241 : 0 ≤ (x12_1 : Int) := of_decide_eq_true (by first | (with_reducible assumption) | assumption)
              have q241 : x12_1 < (l0.length : Int) := of_decide_eq_true (by first | (with_reducible assumption) | assumption)
              obtain ⟨ad241, A241_2, c241_2, e241, hx241_0, hx241_1, hx241_2, hl241_2, hi241_2⟩ := at_T37 HR0.out x12_1 p241 q241
              obtain rfl : ad239 = ad241 := (by injection e241)
              have HR241_2 := Aside0.mk hi241_2
              have HC241_2 := Aside0.mk hl241_2
              clear hi241_2 hl241_2
              replace p241 := eq_true p241
              replace q241 := eq_true q241
              have ea_ := Option.some.inj (hx239_2.symm.trans hx241_2)
              injection ea_ with ea_ en_ ec_
              subst ea_
              subst ec_
              clear en_
              go_wp2
              go_meet
              case rel => exact ⟨_, (decide (((rd_T37 l0 x12_1).f1) > (l1.length : Int))), (by first | rfl | (simp; done) | (simp [*]; done) | (simp [wrap64]; done)), H', ⟨by have := HK1.out; first | omega | exact Nat.le_refl _⟩, by repeat (first | exact Drawn0.refl _ | apply Drawn0.step)⟩
          · rw [if_neg c10] at H
            have c10b0 : (((rd_T37 l0 x12_1).f0) == x10_1) = false := beq_eq_false_iff_ne.mpr c10
            have c10b1 : (((rd_T37 l0 x12_1).f0) != x10_1) = true := bne_iff_ne.mpr c10
            have H' := Aside0.mk H
            clear H
            have p239 : 0 ≤ (x12_1 : Int) := of_decide_eq_true (by first | (with_reducible assumption) | assumption)
            have q239 : x12_1 < (l0.length : Int) := of_decide_eq_true (by first | (with_reducible assumption) | assumption)
            obtain ⟨ad239, A239_2, c239_2, e239, hx239_0, hx239_1, hx239_2, hl239_2, hi239_2⟩ := at_T37 HR0.out x12_1 p239 q239
            cases e239
            have HR239_2 := Aside0.mk hi239_2
            have HC239_2 := Aside0.mk hl239_2
            clear hi239_2 hl239_2
            replace p239 := eq_true p239
            replace q239 := eq_true q239
            go_wp2
            go_meet
            case rel => exact ⟨_, (true), (by first | rfl | (simp; done) | (simp [*]; done) | (simp [wrap64]; done)), H', ⟨by have := HK1.out; first | omega | exact Nat.le_refl _⟩, by repeat (first | exact Drawn0.refl _ | apply Drawn0.step)⟩
        · rw [if_neg c9] at H
          exact absurd H (by simp)
       case rest =>
        clear HC8
        try clear c1
        try clear c2
        try clear p2
        try clear q2
        try clear hx2
        try clear c6
        try clear c7
        try clear c7b0
        try clear c9
        try clear c9b0
        try clear c10
        try clear c10b0
        try clear c10b1
        try clear c11
        try clear c11b0
        try clear hx239_0
        try clear hx239_1
        try clear hx239_2
        try clear hx240_0
        try clear hx240_1
        try clear hx240_2
        try clear hx241_0
        try clear hx241_1
        try clear hx241_2
        try clear p2
        try clear p239
        try clear p240
        try clear p241
        try clear q239
        try clear q240
        try clear q241
        obtain ⟨kq, x50_7, rfl, HA, HJ7, ⟨mc7, rfl⟩⟩ := hcut
        cases kq with
        | zero => exact absurd HA.out (by simp [partitaref26_Cost.j1])
        | succ kj7 =>
         have H := HA.out
         clear HA
         simp only [partitaref26_Cost.j1] at H
         by_cases c12 : x50_7 = true
         · subst c12
           have H1 : (some (0, false)) = some (r1, r2) := by rw [if_pos rfl] at H; exact H
           clear H
           have H := H1
           clear H1
           simp only [Option.some.injEq, Prod.mk.injEq] at H
           obtain ⟨rfl, rfl⟩ := H
           go_wp2
           go_ret2
           exact ⟨by first | rfl | (simp; done) | (simp [*]; done), by repeat (first | exact Drawn0.refl _ | apply Drawn0.step)⟩
         · replace c12 := Bool.eq_false_iff.mpr c12
           subst c12
           have H1 : (if 0 ≤ x12_1 then (if x12_1 < (l0.length : Int) then ((partitaref26_rest.f kj7 l1 a2 a3 x10_1 ((rd_T37 l0 x12_1).f1)).bind fun t243 => (if t243 < 0 then (some (0, false)) else (if ((rd_T37 l0 x12_1).f1) < (l1.length : Int) then (partitaref26_Cost.l0 kj7 l0 l1 a2 a3 ((rd_T37 l0 x12_1).f1) (wrap64 (x11_1 + (wrap64 (t243 * t243)))) (wrap64 (x12_1 + 1))) else (partitaref26_Cost.l0 kj7 l0 l1 a2 a3 ((rd_T37 l0 x12_1).f1) x11_1 (wrap64 (x12_1 + 1)))))) else (none)) else (none)) = some (r1, r2) := by rw [if_neg (show ¬ (false = true) by decide)] at H; exact H
           clear H
           have H := H1
           clear H1
           by_cases c13 : 0 ≤ x12_1
           · rw [if_pos c13] at H
             have c13b0 : decide (0 ≤ x12_1) = true := decide_eq_true c13
             clear c13
             by_cases c14 : x12_1 < (l0.length : Int)
             · rw [if_pos c14] at H
               have c14b0 : decide (x12_1 < (l0.length : Int)) = true := decide_eq_true c14
               clear c14
               replace H := Option.bind_eq_some_iff.mp H
               obtain ⟨t243, A150, H⟩ := H
               replace H : (if t243 < 0 then (some (0, false)) else (if ((rd_T37 l0 x12_1).f1) < (l1.length : Int) then (partitaref26_Cost.l0 kj7 l0 l1 a2 a3 ((rd_T37 l0 x12_1).f1) (wrap64 (x11_1 + (wrap64 (t243 * t243)))) (wrap64 (x12_1 + 1))) else (partitaref26_Cost.l0 kj7 l0 l1 a2 a3 ((rd_T37 l0 x12_1).f1) x11_1 (wrap64 (x12_1 + 1))))) = some (r1, r2) := H
               have A15 := Aside0.mk A150
               clear A150
               by_cases c16 : t243 < 0
               · rw [if_pos c16] at H
                 have c16b0 : decide (t243 < 0) = true := decide_eq_true c16
                 clear c16
                 simp only [Option.some.injEq, Prod.mk.injEq] at H
                 obtain ⟨rfl, rfl⟩ := H
                 have p242 : 0 ≤ (x12_1 : Int) := of_decide_eq_true (by first | (with_reducible assumption) | assumption)
                 have q242 : x12_1 < (l0.length : Int) := of_decide_eq_true (by first | (with_reducible assumption) | assumption)
                 obtain ⟨ad242, A242_2, c242_2, e242, hx242_0, hx242_1, hx242_2, hl242_2, hi242_2⟩ := at_T37 HR0.out x12_1 p242 q242
                 cases e242
                 have HR242_2 := Aside0.mk hi242_2
                 have HC242_2 := Aside0.mk hl242_2
                 clear hi242_2 hl242_2
                 replace p242 := eq_true p242
                 replace q242 := eq_true q242
                 go_wp2_with (first | ((with_reducible refine gate_callee (f := 24) rfl ?_); refine goesL_ (some 60) rfl rfl Tryd.func24 (by kernel_rfl) rfl #[.slice A1 l1.length c1, .int .i64 a2, .int .i64 a3, .int .i64 x10_1, .int .i64 ((rd_T37 l0 x12_1).f1)] rfl (by (try simp only [List.map_toArray, List.map_cons, List.map_nil]); first | done | rfl | (simp only [List.length_drop, List.length_take]; rfl)) ?_; (with_reducible refine (partitaref26_rest.calls kj7 _ _ l1 a2 a3 x10_1 ((rd_T37 l0 x12_1).f1) t243 _ ?side1 ?side2 A15.out).mono ?_); (case side1 => repeat (first | exact HR1.out | (with_reducible refine Kd.C_alloc ?_ _) | (with_reducible refine Kd.C_drewN ?_ _) | (with_reducible refine Kd.C_drew ?_))); (case side2 => exact HC1.out); rintro e w' ⟨rfl, ⟨nd, rfl⟩⟩; refine ⟨_, rfl, ?_⟩; have p244 : 0 ≤ (x12_1 : Int) := of_decide_eq_true (by first | (with_reducible assumption) | assumption); have q244 : x12_1 < (l0.length : Int) := of_decide_eq_true (by first | (with_reducible assumption) | assumption); obtain ⟨ad244, A244_2, c244_2, e244, hx244_0, hx244_1, hx244_2, hl244_2, hi244_2⟩ := at_T37 HR0.out x12_1 p244 q244; obtain rfl : ad242 = ad244 := (by injection e244); have HR244_2 := Aside0.mk hi244_2; have HC244_2 := Aside0.mk hl244_2; clear hi244_2 hl244_2; replace p244 := eq_true p244; replace q244 := eq_true q244; have ea_ := Option.some.inj (hx242_2.symm.trans hx244_2); injection ea_ with ea_ en_ ec_; subst ea_; subst ec_; clear en_))
                 go_ret2
                 exact ⟨by first | rfl | (simp; done) | (simp [*]; done), by repeat (first | exact Drawn0.refl _ | apply Drawn0.step)⟩
               · rw [if_neg c16] at H
                 have c16b0 : decide (t243 < 0) = false := decide_eq_false c16
                 clear c16
                 by_cases c17 : ((rd_T37 l0 x12_1).f1) < (l1.length : Int)
                 · rw [if_pos c17] at H
                   have c17b0 : decide (((rd_T37 l0 x12_1).f1) < (l1.length : Int)) = true := decide_eq_true c17
                   clear c17
                   have H' := Aside0.mk H
                   clear H
                   have p242 : 0 ≤ (x12_1 : Int) := of_decide_eq_true (by first | (with_reducible assumption) | assumption)
                   have q242 : x12_1 < (l0.length : Int) := of_decide_eq_true (by first | (with_reducible assumption) | assumption)
                   obtain ⟨ad242, A242_2, c242_2, e242, hx242_0, hx242_1, hx242_2, hl242_2, hi242_2⟩ := at_T37 HR0.out x12_1 p242 q242
                   cases e242
                   have HR242_2 := Aside0.mk hi242_2
                   have HC242_2 := Aside0.mk hl242_2
                   clear hi242_2 hl242_2
                   replace p242 := eq_true p242
                   replace q242 := eq_true q242
                   go_wp2_with (first | ((with_reducible refine gate_callee (f := 24) rfl ?_); refine goesL_ (some 60) rfl rfl Tryd.func24 (by kernel_rfl) rfl #[.slice A1 l1.length c1, .int .i64 a2, .int .i64 a3, .int .i64 x10_1, .int .i64 ((rd_T37 l0 x12_1).f1)] rfl (by (try simp only [List.map_toArray, List.map_cons, List.map_nil]); first | done | rfl | (simp only [List.length_drop, List.length_take]; rfl)) ?_; (with_reducible refine (partitaref26_rest.calls kj7 _ _ l1 a2 a3 x10_1 ((rd_T37 l0 x12_1).f1) t243 _ ?side1 ?side2 A15.out).mono ?_); (case side1 => repeat (first | exact HR1.out | (with_reducible refine Kd.C_alloc ?_ _) | (with_reducible refine Kd.C_drewN ?_ _) | (with_reducible refine Kd.C_drew ?_))); (case side2 => exact HC1.out); rintro e w' ⟨rfl, ⟨nd, rfl⟩⟩; refine ⟨_, rfl, ?_⟩; have p244 : 0 ≤ (x12_1 : Int) := of_decide_eq_true (by first | (with_reducible assumption) | assumption); have q244 : x12_1 < (l0.length : Int) := of_decide_eq_true (by first | (with_reducible assumption) | assumption); obtain ⟨ad244, A244_2, c244_2, e244, hx244_0, hx244_1, hx244_2, hl244_2, hi244_2⟩ := at_T37 HR0.out x12_1 p244 q244; obtain rfl : ad242 = ad244 := (by injection e244); have HR244_2 := Aside0.mk hi244_2; have HC244_2 := Aside0.mk hl244_2; clear hi244_2 hl244_2; replace p244 := eq_true p244; replace q244 := eq_true q244; have ea_ := Option.some.inj (hx242_2.symm.trans hx244_2); injection ea_ with ea_ en_ ec_; subst ea_; subst ec_; clear en_))
                   go_roundg kj7
                   case measure => have := HK1.out; have := HJ7.out; omega
                   case rel => exact ⟨((rd_T37 l0 x12_1).f1), (wrap64 (x11_1 + (wrap64 (t243 * t243)))), (wrap64 (x12_1 + 1)), (by first | rfl | (simp; done) | (simp [*]; done) | (simp [wrap64]; done)), (by first | rfl | (simp; done) | (simp [*]; done) | (simp [wrap64]; done)), (by first | rfl | (simp; done) | (simp [*]; done) | (simp [wrap64]; done)), H', ⟨by have := HK1.out; have := HJ7.out; omega⟩, by repeat (first | exact Drawn0.refl _ | apply Drawn0.step)⟩
                 · rw [if_neg c17] at H
                   have c17b0 : decide (((rd_T37 l0 x12_1).f1) < (l1.length : Int)) = false := decide_eq_false c17
                   clear c17
                   have H' := Aside0.mk H
                   clear H
                   have p242 : 0 ≤ (x12_1 : Int) := of_decide_eq_true (by first | (with_reducible assumption) | assumption)
                   have q242 : x12_1 < (l0.length : Int) := of_decide_eq_true (by first | (with_reducible assumption) | assumption)
                   obtain ⟨ad242, A242_2, c242_2, e242, hx242_0, hx242_1, hx242_2, hl242_2, hi242_2⟩ := at_T37 HR0.out x12_1 p242 q242
                   cases e242
                   have HR242_2 := Aside0.mk hi242_2
                   have HC242_2 := Aside0.mk hl242_2
                   clear hi242_2 hl242_2
                   replace p242 := eq_true p242
                   replace q242 := eq_true q242
                   go_wp2_with (first | ((with_reducible refine gate_callee (f := 24) rfl ?_); refine goesL_ (some 60) rfl rfl Tryd.func24 (by kernel_rfl) rfl #[.slice A1 l1.length c1, .int .i64 a2, .int .i64 a3, .int .i64 x10_1, .int .i64 ((rd_T37 l0 x12_1).f1)] rfl (by (try simp only [List.map_toArray, List.map_cons, List.map_nil]); first | done | rfl | (simp only [List.length_drop, List.length_take]; rfl)) ?_; (with_reducible refine (partitaref26_rest.calls kj7 _ _ l1 a2 a3 x10_1 ((rd_T37 l0 x12_1).f1) t243 _ ?side1 ?side2 A15.out).mono ?_); (case side1 => repeat (first | exact HR1.out | (with_reducible refine Kd.C_alloc ?_ _) | (with_reducible refine Kd.C_drewN ?_ _) | (with_reducible refine Kd.C_drew ?_))); (case side2 => exact HC1.out); rintro e w' ⟨rfl, ⟨nd, rfl⟩⟩; refine ⟨_, rfl, ?_⟩; have p244 : 0 ≤ (x12_1 : Int) := of_decide_eq_true (by first | (with_reducible assumption) | assumption); have q244 : x12_1 < (l0.length : Int) := of_decide_eq_true (by first | (with_reducible assumption) | assumption); obtain ⟨ad244, A244_2, c244_2, e244, hx244_0, hx244_1, hx244_2, hl244_2, hi244_2⟩ := at_T37 HR0.out x12_1 p244 q244; obtain rfl : ad242 = ad244 := (by injection e244); have HR244_2 := Aside0.mk hi244_2; have HC244_2 := Aside0.mk hl244_2; clear hi244_2 hl244_2; replace p244 := eq_true p244; replace q244 := eq_true q244; have ea_ := Option.some.inj (hx242_2.symm.trans hx244_2); injection ea_ with ea_ en_ ec_; subst ea_; subst ec_; clear en_))
                   go_roundg kj7
                   case measure => have := HK1.out; have := HJ7.out; omega
                   case rel => exact ⟨((rd_T37 l0 x12_1).f1), (x11_1), (wrap64 (x12_1 + 1)), (by first | rfl | (simp; done) | (simp [*]; done) | (simp [wrap64]; done)), (by first | rfl | (simp; done) | (simp [*]; done) | (simp [wrap64]; done)), (by first | rfl | (simp; done) | (simp [*]; done) | (simp [wrap64]; done)), H', ⟨by have := HK1.out; have := HJ7.out; omega⟩, by repeat (first | exact Drawn0.refl _ | apply Drawn0.step)⟩
             · rw [if_neg c14] at H
               exact absurd H (by simp)
           · rw [if_neg c13] at H
             exact absurd H (by simp)
     · rw [if_neg c7] at H
       have c7b0 : decide (x12_1 < (l0.length : Int)) = false := decide_eq_false c7
       clear c7
       by_cases c18 : x10_1 = (l1.length : Int)
       · rw [if_pos c18] at H
         have c18b0 : (x10_1 == (l1.length : Int)) = true := beq_iff_eq.mpr c18
         have c18b1 : (x10_1 != (l1.length : Int)) = false := bne_eq_false_iff_eq.mpr c18
         clear c18
         simp only [Option.some.injEq, Prod.mk.injEq] at H
         obtain ⟨rfl, rfl⟩ := H
         go_wp2
         go_ret2
         exact ⟨by first | rfl | (simp; done) | (simp [*]; done), by repeat (first | exact Drawn0.refl _ | apply Drawn0.step)⟩
       · rw [if_neg c18] at H
         have c18b0 : (x10_1 == (l1.length : Int)) = false := beq_eq_false_iff_ne.mpr c18
         have c18b1 : (x10_1 != (l1.length : Int)) = true := bne_iff_ne.mpr c18
         simp only [Option.some.injEq, Prod.mk.injEq] at H
         obtain ⟨rfl, rfl⟩ := H
         go_wp2
         go_ret2
         exact ⟨by first | rfl | (simp; done) | (simp [*]; done), by repeat (first | exact Drawn0.refl _ | apply Drawn0.step)⟩
 · replace c6 := Bool.eq_false_iff.mpr c6
   subst c6
   have H1 : (some (0, false)) = some (r1, r2) := by rw [if_neg (show ¬ (false = true) by decide)] at H; exact H
   clear H
   have H := H1
   clear H1
   simp only [Option.some.injEq, Prod.mk.injEq] at H
   obtain ⟨rfl, rfl⟩ := H
   go_enter Tryd.func15, Tryd.ntmps15
   go_wp2_with (first | ((with_reducible refine gate_callee (f := 23) rfl ?_); refine goesL_ (some 17) rfl rfl Tryd.func23 (by kernel_rfl) rfl #[.slice A1 l1.length c1, .int .i64 a2, .int .i64 a3] rfl (by (try simp only [List.map_toArray, List.map_cons, List.map_nil]); first | done | rfl | (simp only [List.length_drop, List.length_take]; rfl)) ?_; (with_reducible refine (partitaref26_lay.calls k _ _ l1 a2 a3 false _ ?side1 ?side2 A5.out).mono ?_); (case side1 => repeat (first | exact HR1.out | (with_reducible refine Kd.C_alloc ?_ _) | (with_reducible refine Kd.C_drewN ?_ _) | (with_reducible refine Kd.C_drew ?_))); (case side2 => exact HC1.out); rintro e w' ⟨rfl, ⟨nd, rfl⟩⟩; refine ⟨_, rfl, ?_⟩))
   go_ret2
   exact ⟨by first | rfl | (simp; done) | (simp [*]; done), by repeat (first | exact Drawn0.refl _ | apply Drawn0.step)⟩

-- NOT PRINTED: function 3 (partitalaw26_PagesTells)

/-! ### partitalaw26_laid: function 17 -/
def partitalaw26_laid.l0 : Nat → Int → List Int → List (S37) → Int → Int → Option ((List (S37)))
 | 0, _, _, _, _, _ => none
 | k + 1, x0, x1, x5, x6, x7 => if x7 < (x1.length : Int) then (if x7 < 100 then (if 0 ≤ x7 then (if x5.length < 3518437208883 then (partitalaw26_laid.l0 k x0 x1 (x5 ++ [(⟨x6, rd x1 x7, ([] : List Int)⟩ : S37)]) (rd x1 x7) (wrap64 (x7 + 1))) else (none)) else (none)) else (if x5.length < 3518437208883 then (some (x5 ++ [(⟨x6, x0, ([] : List Int)⟩ : S37)])) else (none))) else (if x5.length < 3518437208883 then (some (x5 ++ [(⟨x6, x0, ([] : List Int)⟩ : S37)])) else (none))
def partitalaw26_laid.f (k : Nat) (a0 : Int) (l1 : List Int) : Option ((List (S37))) := partitalaw26_laid.l0 k a0 l1 ([] : List (S37)) 0 0
theorem partitalaw26_laid.mono_l : ∀ k, (∀ y0 y1 y2 y3 y4, LeO (partitalaw26_laid.l0 k y0 y1 y2 y3 y4) (partitalaw26_laid.l0 (k + 1) y0 y1 y2 y3 y4))
 | 0 => fun _ _ _ _ _ r h => by simp [partitalaw26_laid.l0] at h
 | k + 1 => by
  have ih0 := partitalaw26_laid.mono_l k
  · intro y0 y1 y2 y3 y4
    unfold partitalaw26_laid.l0
    repeat' first
    | (with_reducible exact ih0 _ _ _ _ _)
    | (with_reducible exact LeO.refl _)
    | (with_reducible exact LeO.none _)
    | (with_reducible refine LeO.ite ?_ ?_)
    | (with_reducible refine LeO.bind ?_ (fun _ => ?_))
    | exact ih0 _ _ _ _ _
    | exact LeO.none _
    | refine LeO.ite ?_ ?_
    | refine LeO.bind ?_ (fun _ => ?_)
theorem partitalaw26_laid.mono : ∀ a0 a1 k, LeO (partitalaw26_laid.f k a0 a1) (partitalaw26_laid.f (k + 1) a0 a1) := by
 intro a0 a1 k
 have ih0 := partitalaw26_laid.mono_l k
 unfold partitalaw26_laid.f
 repeat' first
  | (with_reducible exact ih0 _ _ _ _ _)
  | (with_reducible exact LeO.refl _)
  | (with_reducible exact LeO.none _)
  | (with_reducible refine LeO.ite ?_ ?_)
  | (with_reducible refine LeO.bind ?_ (fun _ => ?_))
  | exact ih0 _ _ _ _ _
  | exact LeO.none _
  | refine LeO.ite ?_ ?_
  | refine LeO.bind ?_ (fun _ => ?_)
set_option maxHeartbeats 8000000 in
set_option maxRecDepth 100000 in
theorem partitalaw26_laid.calls (k : Nat) (a0 : Int) (A1 : Option Addr) (c1 : Nat) (l1 : List Int) (r : List (S37)) (w : World) (hr1 : Kd.C (Kd.int .i64) w A1 l1.length l1) (hc1 : l1.length ≤ c1) (h : partitalaw26_laid.f k a0 l1 = some r) :
 Calls Tryd.prog 17 #[.int .i64 a0, .slice A1 l1.length c1] w fun e w' => ∃ v0_ : Value, e = .returned (v0_) ∧ Kd.S k37 37 w' w.heap.size (fun _ => True) v0_ r ∧ Below w.heap.size w w' := by
 have hu37 := Tryd.underlying37
 have HR1 := Aside0.mk hr1
 have HC1 := Aside0.mk hc1
 clear hr1 hc1
 have HB := Aside0.mk (Below.refl w.heap.size w)
 have H : (partitalaw26_laid.l0 k a0 l1 ([] : List (S37)) 0 0) = some r := h
 clear h
 have H' := Aside0.mk H
 clear H
 go_enter Tryd.func17, Tryd.ntmps17
 go_wp2
 go_loopg [5, 6, 7] k (fun kq v5 v6 v7 w' => ∃ (x5_1 : List (S37)) (x6_1 : Int) (x7_1 : Int), v6 = .int .i64 x6_1 ∧ v7 = .int .i64 x7_1 ∧ Aside0 (partitalaw26_laid.l0 kq a0 l1 x5_1 x6_1 x7_1 = some r) ∧ Aside0 (kq ≤ k) ∧ Aside0 (Kd.S k37 37 w' w.heap.size (fun _ => True) v5 x5_1) ∧ Aside0 (Below w.heap.size w w'))
 case atStart => exact ⟨(([] : List (S37))), (0), (0), (by first | rfl | (simp; done) | (simp [*]; done) | (simp [wrap64]; done)), (by first | rfl | (simp; done) | (simp [*]; done) | (simp [wrap64]; done)), H', ⟨Nat.le_refl _⟩, ⟨by first | exact Kd.S_nil _ _ _ _ _ | exact Kd.N_nil _ _ _ _ _ | exact Kd.V_nil _ _ _ _ _ | exact Kd.Q_nil _ _ _ _ _ | exact Kd.R_nil _ _ _ _ _⟩, ⟨by repeat (first | (with_reducible first | exact HB.out | apply below_alloc | apply pw_below_drewN | apply below_drew1) | exact HB.out)⟩⟩
 case round =>
  clear H'
  try clear c1
  try clear p2
  obtain ⟨x5_1, x6_1, x7_1, rfl, rfl, HA, HK1, HO_5, HB⟩ := hrel
  cases gk with
  | zero => exact absurd HA.out (by simp [partitalaw26_laid.l0])
  | succ k1 =>
   have H := HA.out
   clear HA
   simp only [partitalaw26_laid.l0] at H
   by_cases c3 : x7_1 < (l1.length : Int)
   · rw [if_pos c3] at H
     have c3b0 : decide (x7_1 < (l1.length : Int)) = true := decide_eq_true c3
     clear c3
     by_cases c4 : x7_1 < 100
     · rw [if_pos c4] at H
       have c4b0 : decide (x7_1 < 100) = true := decide_eq_true c4
       clear c4
       by_cases c5 : 0 ≤ x7_1
       · rw [if_pos c5] at H
         have c5b0 : decide (0 ≤ x7_1) = true := decide_eq_true c5
         clear c5
         by_cases c6 : x5_1.length < 3518437208883
         · rw [if_pos c6] at H
           have LMc6 := Aside0.mk c6
           clear c6
           obtain ⟨y251, hy251⟩ : ∃ y_ : List (S37), y_ = (x5_1 ++ [(⟨x6_1, rd l1 x7_1, ([] : List Int)⟩ : S37)]) := ⟨_, rfl⟩
           replace H : (partitalaw26_laid.l0 k1 a0 l1 y251 (rd l1 x7_1) (wrap64 (x7_1 + 1))) = some r := by first | (rw [hy251]; with_reducible exact H) | (have H2_ := (Option.bind_some _ _).symm.trans H; rw [hy251]; with_reducible exact H2_) | (have H2_ := (Option.bind_some _ _).symm.trans H; with_reducible exact H2_) | with_reducible exact H | (rw [hy251]; exact H) | exact H
           have Ny251 := Aside0.mk hy251
           clear hy251
           have H' := Aside0.mk H
           clear H
           have p250 : 0 ≤ (x7_1 : Int) := of_decide_eq_true (by first | (with_reducible assumption) | assumption)
           have q250 : x7_1 < (l1.length : Int) := of_decide_eq_true (by first | (with_reducible assumption) | assumption)
           obtain ⟨ad250, e250, hx250_0⟩ := Kd.at_int HR1.out x7_1 p250 q250
           cases e250
           replace hx250_0 := (HB.out.cell (World.block_lt_of_cell? w _ hx250_0)).trans hx250_0
           replace p250 := eq_true p250
           replace q250 := eq_true q250
           go_wp2_with (first | ((with_reducible refine gate_builtin (b := .append) (xs := #[.tmp 18, .tmp 25]) rfl ?_); at_builtin; refine Kd.S_append k37 (w0 := w) w.heap.size rfl (.tmp 18) (.tmp 25) 23 37 (.agg #[(.int .i64 0), (.int .i64 0), (.slice none 0 0)]) 40 rfl Tryd.underlying23 info37 rfl (by decide) (by omega) u5 x5_1 (⟨x6_1, rd l1 x7_1, ([] : List Int)⟩ : S37) [.int .i64 x6_1, .int .i64 (rd l1 x7_1), .slice none 0 0] (fun _ => True) (fun _ => False) rfl rfl ?aP (fun k_ hk_ => hk_.elim) ?aF ?aO ?aB ?aS ?aL ?_; (case aP => exact k37_mkM _ _ _ (⟨x6_1, rd l1 x7_1, ([] : List Int)⟩ : S37) (Kd.R_nil _ _ _ _ _)); (case aB => exact (by repeat (first | (with_reducible first | exact HB.out | apply below_alloc | apply pw_below_drewN | apply below_drew1) | exact HB.out))); (case aF => exact (fun _ _ => trivial)); (case aO => exact (by (with_reducible repeat (first | apply Kd.S_alloc | apply Kd.S_drewN | apply Kd.S_drew)); exact Kd.S_mono HO_5.out (fun k_ hk => ⟨trivial, fun e_ => e_⟩))); (case aS => exact (below_size (by repeat (first | (with_reducible first | exact HB.out | apply below_alloc | apply pw_below_drewN | apply below_drew1) | exact HB.out)))); (case aL => have := LMc6.out; omega); intro v252 w7 ho hb hg hat; rw [← Ny251.out] at ho; have n0_ := Aside0.mk (hb); have n1_ := Aside0.mk (ho); clear HB; clear HO_5; have HB := n0_; have HO253 := n1_; clear n0_ n1_; clear ho hb hg hat; have p254 : 0 ≤ (x7_1 : Int) := of_decide_eq_true (by first | (with_reducible assumption) | assumption); have q254 : x7_1 < (l1.length : Int) := of_decide_eq_true (by first | (with_reducible assumption) | assumption); obtain ⟨ad254, e254, hx254_0⟩ := Kd.at_int HR1.out x7_1 p254 q254; obtain rfl : ad250 = ad254 := (by injection e254); replace hx254_0 := (HB.out.cell (World.block_lt_of_cell? w _ hx254_0)).trans hx254_0; replace p254 := eq_true p254; replace q254 := eq_true q254))
           go_roundg k1
           case measure => have := HK1.out; omega
           case rel => exact ⟨(y251), (rd l1 x7_1), (wrap64 (x7_1 + 1)), (by first | rfl | (simp; done) | (simp [*]; done) | (simp [wrap64]; done)), (by first | rfl | (simp; done) | (simp [*]; done) | (simp [wrap64]; done)), H', ⟨by have := HK1.out; omega⟩, ⟨by (with_reducible repeat (first | apply Kd.S_alloc | apply Kd.S_drewN | apply Kd.S_drew)); exact HO253.out⟩, ⟨by repeat (first | (with_reducible first | exact HB.out | apply below_alloc | apply pw_below_drewN | apply below_drew1) | exact HB.out)⟩⟩
         · rw [if_neg c6] at H
           exact absurd H (by simp)
       · rw [if_neg c5] at H
         exact absurd H (by simp)
     · rw [if_neg c4] at H
       have c4b0 : decide (x7_1 < 100) = false := decide_eq_false c4
       clear c4
       by_cases c8 : x5_1.length < 3518437208883
       · rw [if_pos c8] at H
         have LMc8 := Aside0.mk c8
         clear c8
         obtain ⟨y255, hy255⟩ : ∃ y_ : List (S37), y_ = (x5_1 ++ [(⟨x6_1, a0, ([] : List Int)⟩ : S37)]) := ⟨_, rfl⟩
         replace H : (some y255) = some r := by first | (rw [hy255]; with_reducible exact H) | (have H2_ := (Option.bind_some _ _).symm.trans H; rw [hy255]; with_reducible exact H2_) | (have H2_ := (Option.bind_some _ _).symm.trans H; with_reducible exact H2_) | with_reducible exact H | (rw [hy255]; exact H) | exact H
         have Ny255 := Aside0.mk hy255
         clear hy255
         obtain rfl := Option.some.inj H
         go_wp2_with (first | ((with_reducible refine gate_builtin (b := .append) (xs := #[.tmp 31, .tmp 35]) rfl ?_); at_builtin; refine Kd.S_append k37 (w0 := w) w.heap.size rfl (.tmp 31) (.tmp 35) 23 37 (.agg #[(.int .i64 0), (.int .i64 0), (.slice none 0 0)]) 40 rfl Tryd.underlying23 info37 rfl (by decide) (by omega) u5 x5_1 (⟨x6_1, a0, ([] : List Int)⟩ : S37) [.int .i64 x6_1, .int .i64 a0, .slice none 0 0] (fun _ => True) (fun _ => False) rfl rfl ?aP (fun k_ hk_ => hk_.elim) ?aF ?aO ?aB ?aS ?aL ?_; (case aP => exact k37_mkM _ _ _ (⟨x6_1, a0, ([] : List Int)⟩ : S37) (Kd.R_nil _ _ _ _ _)); (case aB => exact (by repeat (first | (with_reducible first | exact HB.out | apply below_alloc | apply pw_below_drewN | apply below_drew1) | exact HB.out))); (case aF => exact (fun _ _ => trivial)); (case aO => exact (by (with_reducible repeat (first | apply Kd.S_alloc | apply Kd.S_drewN | apply Kd.S_drew)); exact Kd.S_mono HO_5.out (fun k_ hk => ⟨trivial, fun e_ => e_⟩))); (case aS => exact (below_size (by repeat (first | (with_reducible first | exact HB.out | apply below_alloc | apply pw_below_drewN | apply below_drew1) | exact HB.out)))); (case aL => have := LMc8.out; omega); intro v256 w9 ho hb hg hat; rw [← Ny255.out] at ho; have n0_ := Aside0.mk (hb); have n1_ := Aside0.mk (ho); clear HB; clear HO_5; have HB := n0_; have HO257 := n1_; clear n0_ n1_; clear ho hb hg hat))
         go_ret
         exact ⟨_, by first | rfl | (simp [errW_none, errW_some] <;> rfl) | (simp [*, errW_none, errW_some] <;> rfl), by (with_reducible repeat (first | apply Kd.S_alloc | apply Kd.S_drewN | apply Kd.S_drew)); exact HO257.out, by repeat (first | (with_reducible first | exact HB.out | apply below_alloc | apply pw_below_drewN | apply below_drew1) | exact HB.out)⟩
       · rw [if_neg c8] at H
         exact absurd H (by simp)
   · rw [if_neg c3] at H
     have c3b0 : decide (x7_1 < (l1.length : Int)) = false := decide_eq_false c3
     clear c3
     by_cases c10 : x5_1.length < 3518437208883
     · rw [if_pos c10] at H
       have LMc10 := Aside0.mk c10
       clear c10
       obtain ⟨y258, hy258⟩ : ∃ y_ : List (S37), y_ = (x5_1 ++ [(⟨x6_1, a0, ([] : List Int)⟩ : S37)]) := ⟨_, rfl⟩
       replace H : (some y258) = some r := by first | (rw [hy258]; with_reducible exact H) | (have H2_ := (Option.bind_some _ _).symm.trans H; rw [hy258]; with_reducible exact H2_) | (have H2_ := (Option.bind_some _ _).symm.trans H; with_reducible exact H2_) | with_reducible exact H | (rw [hy258]; exact H) | exact H
       have Ny258 := Aside0.mk hy258
       clear hy258
       obtain rfl := Option.some.inj H
       go_wp2_with (first | ((with_reducible refine gate_builtin (b := .append) (xs := #[.tmp 31, .tmp 35]) rfl ?_); at_builtin; refine Kd.S_append k37 (w0 := w) w.heap.size rfl (.tmp 31) (.tmp 35) 23 37 (.agg #[(.int .i64 0), (.int .i64 0), (.slice none 0 0)]) 40 rfl Tryd.underlying23 info37 rfl (by decide) (by omega) u5 x5_1 (⟨x6_1, a0, ([] : List Int)⟩ : S37) [.int .i64 x6_1, .int .i64 a0, .slice none 0 0] (fun _ => True) (fun _ => False) rfl rfl ?aP (fun k_ hk_ => hk_.elim) ?aF ?aO ?aB ?aS ?aL ?_; (case aP => exact k37_mkM _ _ _ (⟨x6_1, a0, ([] : List Int)⟩ : S37) (Kd.R_nil _ _ _ _ _)); (case aB => exact (by repeat (first | (with_reducible first | exact HB.out | apply below_alloc | apply pw_below_drewN | apply below_drew1) | exact HB.out))); (case aF => exact (fun _ _ => trivial)); (case aO => exact (by (with_reducible repeat (first | apply Kd.S_alloc | apply Kd.S_drewN | apply Kd.S_drew)); exact Kd.S_mono HO_5.out (fun k_ hk => ⟨trivial, fun e_ => e_⟩))); (case aS => exact (below_size (by repeat (first | (with_reducible first | exact HB.out | apply below_alloc | apply pw_below_drewN | apply below_drew1) | exact HB.out)))); (case aL => have := LMc10.out; omega); intro v259 w11 ho hb hg hat; rw [← Ny258.out] at ho; have n0_ := Aside0.mk (hb); have n1_ := Aside0.mk (ho); clear HB; clear HO_5; have HB := n0_; have HO260 := n1_; clear n0_ n1_; clear ho hb hg hat))
       go_ret
       exact ⟨_, by first | rfl | (simp [errW_none, errW_some] <;> rfl) | (simp [*, errW_none, errW_some] <;> rfl), by (with_reducible repeat (first | apply Kd.S_alloc | apply Kd.S_drewN | apply Kd.S_drew)); exact HO260.out, by repeat (first | (with_reducible first | exact HB.out | apply below_alloc | apply pw_below_drewN | apply below_drew1) | exact HB.out)⟩
     · rw [if_neg c10] at H
       exact absurd H (by simp)

end Go.Proofs.YtbpcilbplgbonaaDoor.Q
