-- Written by a program of this session (myprint.py), function by function.
import Derived.Test.YtbpcilbplgbonaaDoorQ0
import Derived.Test.YtbpcilbplgbonaaDoorQ2
import Derived.Test.YtbpcilbplgbonaaDoorQ6
import Derived.Test.YtbpcilbplgbonaaDoorFew
import Derived.Test.YtbpcilbplgbonaaDoorWAt
import Derived.Test.YtbpcilbplgbonaaDoorWN
import Derived.Test.YtbpcilbplgbonaaDoorWNEv
namespace Go.Proofs.YtbpcilbplgbonaaDoor.Q
open Go.RowKit Go.Proofs.YtbpcilbplgbonaaDoorW.PrintWords Go.Proofs.YtbpcilbplgbonaaDoorW.PrintLast Go.Proofs.YtbpcilbplgbonaaDoorW.PrintMore
attribute [local go_sem] max2_int min2_int max_two min_two max_three min_three max_four min_four   -- for this text's walks alone
set_option linter.unusedVariables false
set_option linter.unusedSimpArgs false

/-! ### partitalaw26_PagesBehind: function 6 -/
mutual
def partitalaw26_PagesBehind.j0 : Nat → List Int → Int → Int → Bool → List (S37) → Int → Bool → Option (Bool)
 | 0, _, _, _, _, _, _, _ => none
 | k + 1, x0, x1, x2, x7, x8, x9, x30 => if x30 = true then (if x7 = true then (if x9 = 0 then (some ((x0.length : Int) == 0)) else (some true)) else none) else (if 0 < (x8.length : Int) then (if ((rd_T37 x8 0).f1) < 1 then (partitalaw26_PagesBehind.j1 k x0 x1 x2 x7 x8 ((rd_T37 x8 0).f1) true) else (partitalaw26_PagesBehind.j1 k x0 x1 x2 x7 x8 ((rd_T37 x8 0).f1) (decide (((rd_T37 x8 0).f1) > (x0.length : Int))))) else (none))
def partitalaw26_PagesBehind.j1 : Nat → List Int → Int → Int → Bool → List (S37) → Int → Bool → Option (Bool)
 | 0, _, _, _, _, _, _, _ => none
 | k + 1, x0, x1, x2, x7, x8, x10, x52 => if x52 = true then none else (if 0 ≤ x10 then (if x10 ≤ (x0.length : Int) then ((pages_Break.f (x0.drop (x10 : Int).toNat) x1 x2).bind fun bt303 => (if bt303.2 = 0 then (partitalaw26_PagesBehind.j2 k x7 x8 x10 bt303.1 ((bt303.1.length : Int) != (wrap64 ((x8.length : Int) - 1)))) else (partitalaw26_PagesBehind.j2 k x7 x8 x10 bt303.1 true))) else (none)) else (none))
def partitalaw26_PagesBehind.j2 : Nat → Bool → List (S37) → Int → List (S37) → Bool → Option (Bool)
 | 0, _, _, _, _, _ => none
 | k + 1, x7, x8, x10, x11, x71 => if x71 = true then none else (partitalaw26_PagesBehind.l0 k x7 x8 x10 x11 0)
def partitalaw26_PagesBehind.l0 : Nat → Bool → List (S37) → Int → List (S37) → Int → Option (Bool)
 | 0, _, _, _, _, _ => none
 | k + 1, x7, x8, x10, x11, x13 => if x13 < (x11.length : Int) then (if 0 ≤ x13 then ((some (x11.set (x13 : Int).toNat (⟨wrap64 (((rd_T37 x11 x13).f0) + x10), (rd_T37 x11 x13).f1, (rd_T37 x11 x13).f2⟩ : S37) : List (S37))).bind fun y308 => (partitalaw26_PagesBehind.l0 k x7 x8 x10 (y308.set (x13 : Int).toNat (⟨(rd_T37 y308 x13).f0, wrap64 (((rd_T37 y308 x13).f1) + x10), (rd_T37 y308 x13).f2⟩ : S37)) (wrap64 (x13 + 1)))) else (none)) else (if x7 = true then (if 1 ≤ (x8.length : Int) then ((partitaref26_Same.f k x11 (x8.drop 1)).bind fun t315 => (some t315)) else (none)) else none)
end
def partitalaw26_PagesBehind.f (k : Nat) (l0 : List Int) (a1 : Int) (a2 : Int) : Option (Bool) := (partitalaw26_shown.f k).bind fun t289 => (if 0 ≤ (mn (l0.length : Int) 101) then (if (mn (l0.length : Int) 101) ≤ (l0.length : Int) then ((some (l0.take ((mn (l0.length : Int) 101) : Int).toNat : List Int)).bind fun y290 => ((pages_Break.f y290 a1 a2).bind fun bt294 => (if bt294.2 = 0 then (partitalaw26_PagesBehind.j0 k y290 a1 a2 t289 bt294.1 bt294.2 ((bt294.1.length : Int) == 0)) else (partitalaw26_PagesBehind.j0 k y290 a1 a2 t289 bt294.1 bt294.2 true)))) else (none)) else (none))
theorem partitalaw26_PagesBehind.mono_l : ∀ k, (∀ y0 y1 y2 y3 y4 y5 y6, LeO (partitalaw26_PagesBehind.j0 k y0 y1 y2 y3 y4 y5 y6) (partitalaw26_PagesBehind.j0 (k + 1) y0 y1 y2 y3 y4 y5 y6)) ∧ (∀ y0 y1 y2 y3 y4 y5 y6, LeO (partitalaw26_PagesBehind.j1 k y0 y1 y2 y3 y4 y5 y6) (partitalaw26_PagesBehind.j1 (k + 1) y0 y1 y2 y3 y4 y5 y6)) ∧ (∀ y0 y1 y2 y3 y4, LeO (partitalaw26_PagesBehind.j2 k y0 y1 y2 y3 y4) (partitalaw26_PagesBehind.j2 (k + 1) y0 y1 y2 y3 y4)) ∧ (∀ y0 y1 y2 y3 y4, LeO (partitalaw26_PagesBehind.l0 k y0 y1 y2 y3 y4) (partitalaw26_PagesBehind.l0 (k + 1) y0 y1 y2 y3 y4))
 | 0 => ⟨fun _ _ _ _ _ _ _ r h => by simp [partitalaw26_PagesBehind.j0] at h, fun _ _ _ _ _ _ _ r h => by simp [partitalaw26_PagesBehind.j1] at h, fun _ _ _ _ _ r h => by simp [partitalaw26_PagesBehind.j2] at h, fun _ _ _ _ _ r h => by simp [partitalaw26_PagesBehind.l0] at h⟩
 | k + 1 => by
  obtain ⟨ih0, ih1, ih2, ih3⟩ := partitalaw26_PagesBehind.mono_l k
  refine ⟨?_, ?_, ?_, ?_⟩
  · intro y0 y1 y2 y3 y4 y5 y6
    unfold partitalaw26_PagesBehind.j0
    repeat' first
    | (with_reducible exact ih0 _ _ _ _ _ _ _)
    | (with_reducible exact ih1 _ _ _ _ _ _ _)
    | (with_reducible exact ih2 _ _ _ _ _)
    | (with_reducible exact ih3 _ _ _ _ _)
    | (with_reducible exact partitalaw26_shown.mono _)
    | (with_reducible exact partitaref26_Same.mono _ _ _)
    | (with_reducible exact LeO.refl _)
    | (with_reducible exact LeO.none _)
    | (with_reducible refine LeO.ite ?_ ?_)
    | (with_reducible refine LeO.bind ?_ (fun _ => ?_))
    | exact ih0 _ _ _ _ _ _ _
    | exact ih1 _ _ _ _ _ _ _
    | exact ih2 _ _ _ _ _
    | exact ih3 _ _ _ _ _
    | exact partitalaw26_shown.mono _
    | exact partitaref26_Same.mono _ _ _
    | exact LeO.none _
    | refine LeO.ite ?_ ?_
    | refine LeO.bind ?_ (fun _ => ?_)
  · intro y0 y1 y2 y3 y4 y5 y6
    unfold partitalaw26_PagesBehind.j1
    repeat' first
    | (with_reducible exact ih0 _ _ _ _ _ _ _)
    | (with_reducible exact ih1 _ _ _ _ _ _ _)
    | (with_reducible exact ih2 _ _ _ _ _)
    | (with_reducible exact ih3 _ _ _ _ _)
    | (with_reducible exact partitalaw26_shown.mono _)
    | (with_reducible exact partitaref26_Same.mono _ _ _)
    | (with_reducible exact LeO.refl _)
    | (with_reducible exact LeO.none _)
    | (with_reducible refine LeO.ite ?_ ?_)
    | (with_reducible refine LeO.bind ?_ (fun _ => ?_))
    | exact ih0 _ _ _ _ _ _ _
    | exact ih1 _ _ _ _ _ _ _
    | exact ih2 _ _ _ _ _
    | exact ih3 _ _ _ _ _
    | exact partitalaw26_shown.mono _
    | exact partitaref26_Same.mono _ _ _
    | exact LeO.none _
    | refine LeO.ite ?_ ?_
    | refine LeO.bind ?_ (fun _ => ?_)
  · intro y0 y1 y2 y3 y4
    unfold partitalaw26_PagesBehind.j2
    repeat' first
    | (with_reducible exact ih0 _ _ _ _ _ _ _)
    | (with_reducible exact ih1 _ _ _ _ _ _ _)
    | (with_reducible exact ih2 _ _ _ _ _)
    | (with_reducible exact ih3 _ _ _ _ _)
    | (with_reducible exact partitalaw26_shown.mono _)
    | (with_reducible exact partitaref26_Same.mono _ _ _)
    | (with_reducible exact LeO.refl _)
    | (with_reducible exact LeO.none _)
    | (with_reducible refine LeO.ite ?_ ?_)
    | (with_reducible refine LeO.bind ?_ (fun _ => ?_))
    | exact ih0 _ _ _ _ _ _ _
    | exact ih1 _ _ _ _ _ _ _
    | exact ih2 _ _ _ _ _
    | exact ih3 _ _ _ _ _
    | exact partitalaw26_shown.mono _
    | exact partitaref26_Same.mono _ _ _
    | exact LeO.none _
    | refine LeO.ite ?_ ?_
    | refine LeO.bind ?_ (fun _ => ?_)
  · intro y0 y1 y2 y3 y4
    unfold partitalaw26_PagesBehind.l0
    repeat' first
    | (with_reducible exact ih0 _ _ _ _ _ _ _)
    | (with_reducible exact ih1 _ _ _ _ _ _ _)
    | (with_reducible exact ih2 _ _ _ _ _)
    | (with_reducible exact ih3 _ _ _ _ _)
    | (with_reducible exact partitalaw26_shown.mono _)
    | (with_reducible exact partitaref26_Same.mono _ _ _)
    | (with_reducible exact LeO.refl _)
    | (with_reducible exact LeO.none _)
    | (with_reducible refine LeO.ite ?_ ?_)
    | (with_reducible refine LeO.bind ?_ (fun _ => ?_))
    | exact ih0 _ _ _ _ _ _ _
    | exact ih1 _ _ _ _ _ _ _
    | exact ih2 _ _ _ _ _
    | exact ih3 _ _ _ _ _
    | exact partitalaw26_shown.mono _
    | exact partitaref26_Same.mono _ _ _
    | exact LeO.none _
    | refine LeO.ite ?_ ?_
    | refine LeO.bind ?_ (fun _ => ?_)
theorem partitalaw26_PagesBehind.mono : ∀ a0 a1 a2 k, LeO (partitalaw26_PagesBehind.f k a0 a1 a2) (partitalaw26_PagesBehind.f (k + 1) a0 a1 a2) := by
 intro a0 a1 a2 k
 obtain ⟨ih0, ih1, ih2, ih3⟩ := partitalaw26_PagesBehind.mono_l k
 unfold partitalaw26_PagesBehind.f
 repeat' first
  | (with_reducible exact ih0 _ _ _ _ _ _ _)
  | (with_reducible exact ih1 _ _ _ _ _ _ _)
  | (with_reducible exact ih2 _ _ _ _ _)
  | (with_reducible exact ih3 _ _ _ _ _)
  | (with_reducible exact partitalaw26_shown.mono _)
  | (with_reducible exact partitaref26_Same.mono _ _ _)
  | (with_reducible exact LeO.refl _)
  | (with_reducible exact LeO.none _)
  | (with_reducible refine LeO.ite ?_ ?_)
  | (with_reducible refine LeO.bind ?_ (fun _ => ?_))
  | exact ih0 _ _ _ _ _ _ _
  | exact ih1 _ _ _ _ _ _ _
  | exact ih2 _ _ _ _ _
  | exact ih3 _ _ _ _ _
  | exact partitalaw26_shown.mono _
  | exact partitaref26_Same.mono _ _ _
  | exact LeO.none _
  | refine LeO.ite ?_ ?_
  | refine LeO.bind ?_ (fun _ => ?_)
set_option maxHeartbeats 8000000 in
set_option maxRecDepth 100000 in
theorem partitalaw26_PagesBehind.calls (k : Nat) (A0 : Option Addr) (c0 : Nat) (l0 : List Int) (a1 : Int) (a2 : Int) (r : Bool) (w : World) (hr0 : Kd.C (Kd.int .i64) w A0 l0.length l0) (hc0 : l0.length ≤ c0) (h : partitalaw26_PagesBehind.f k l0 a1 a2 = some r) (SENTS : Aside0 (SentsE w) := by exact sents_step (by assumption) (by repeat (first | (with_reducible first | exact (by assumption : Aside0 (Below _ _ _)).out | apply below_alloc | apply pw_below_drewN | apply below_drew1)))) :
 Calls Tryd.prog 6 #[.slice A0 l0.length c0, .int .i64 a1, .int .i64 a2] w fun e w' => e = .returned (.bool r) ∧ Below w.heap.size w w' := by
 have HR0 := Aside0.mk hr0
 have HC0 := Aside0.mk hc0
 clear hr0 hc0
 have HB := Aside0.mk (Below.refl w.heap.size w)
 have H : ((partitalaw26_shown.f k).bind fun t289 => (if 0 ≤ (mn (l0.length : Int) 101) then (if (mn (l0.length : Int) 101) ≤ (l0.length : Int) then ((some (l0.take ((mn (l0.length : Int) 101) : Int).toNat : List Int)).bind fun y290 => ((pages_Break.f y290 a1 a2).bind fun bt294 => (if bt294.2 = 0 then (partitalaw26_PagesBehind.j0 k y290 a1 a2 t289 bt294.1 bt294.2 ((bt294.1.length : Int) == 0)) else (partitalaw26_PagesBehind.j0 k y290 a1 a2 t289 bt294.1 bt294.2 true)))) else (none)) else (none))) = some r := h
 clear h
 replace H := Option.bind_eq_some_iff.mp H
 obtain ⟨t289, A40, H⟩ := H
 replace H : (if 0 ≤ (mn (l0.length : Int) 101) then (if (mn (l0.length : Int) 101) ≤ (l0.length : Int) then ((some (l0.take ((mn (l0.length : Int) 101) : Int).toNat : List Int)).bind fun y290 => ((pages_Break.f y290 a1 a2).bind fun bt294 => (if bt294.2 = 0 then (partitalaw26_PagesBehind.j0 k y290 a1 a2 t289 bt294.1 bt294.2 ((bt294.1.length : Int) == 0)) else (partitalaw26_PagesBehind.j0 k y290 a1 a2 t289 bt294.1 bt294.2 true)))) else (none)) else (none)) = some r := H
 have A4 := Aside0.mk A40
 clear A40
 obtain ⟨ji5, hji5⟩ : ∃ j_ : Int, (mn (l0.length : Int) 101) = j_ := ⟨_, rfl⟩
 replace H : (if 0 ≤ (ji5) then (if (ji5) ≤ (l0.length : Int) then ((some (l0.take ((ji5) : Int).toNat : List Int)).bind fun y290 => ((pages_Break.f y290 a1 a2).bind fun bt294 => (if bt294.2 = 0 then (partitalaw26_PagesBehind.j0 k y290 a1 a2 t289 bt294.1 bt294.2 ((bt294.1.length : Int) == 0)) else (partitalaw26_PagesBehind.j0 k y290 a1 a2 t289 bt294.1 bt294.2 true)))) else (none)) else (none)) = some r := by first | (rw [hji5] at H; exact H) | (simp only [hji5] at H ⊢; exact H)
 (try rw [hji5] at A4)
 (try (have hji5h : ji5 ≤ 101 := by (rw [← hji5]; unfold mn; (repeat' split) <;> omega)))
 (try (have hji5g : ji5 ≤ 64 := by omega))
 (try (have hji5l : 0 ≤ ji5 := by (rw [← hji5]; unfold mn; (repeat' split) <;> omega)))
 (try (have hji5m : 0 ≤ ji5 := by omega))
 have hji5_ : (if 101 < (l0.length : Int) then 101 else (l0.length : Int)) = ji5 := hji5
 by_cases c6 : 0 ≤ (ji5)
 · rw [if_pos c6] at H
   have c6b0 := eq_true c6
   have c6b1 : decide (0 ≤ (ji5)) = true := decide_eq_true c6
   clear c6
   by_cases c7 : (ji5) ≤ (l0.length : Int)
   · rw [if_pos c7] at H
     have c7b0 := eq_true c7
     have c7b1 : decide ((ji5) ≤ (l0.length : Int)) = true := decide_eq_true c7
     clear c7
     obtain ⟨y290, hy290⟩ : ∃ y_ : List Int, y_ = (l0.take ((ji5) : Int).toNat) := ⟨_, rfl⟩
     replace H : ((pages_Break.f y290 a1 a2).bind fun bt294 => (if bt294.2 = 0 then (partitalaw26_PagesBehind.j0 k y290 a1 a2 t289 bt294.1 bt294.2 ((bt294.1.length : Int) == 0)) else (partitalaw26_PagesBehind.j0 k y290 a1 a2 t289 bt294.1 bt294.2 true))) = some r := by first | (rw [hy290]; with_reducible exact H) | (have H2_ := (Option.bind_some _ _).symm.trans H; rw [hy290]; with_reducible exact H2_) | (have H2_ := (Option.bind_some _ _).symm.trans H; with_reducible exact H2_) | with_reducible exact H | (rw [hy290]; exact H) | exact H
     have Ny290 := Aside0.mk hy290
     clear hy290
     replace H := Option.bind_eq_some_iff.mp H
     obtain ⟨⟨t294, t295⟩, A80, H⟩ := H
     replace H : (if t295 = 0 then (partitalaw26_PagesBehind.j0 k y290 a1 a2 t289 t294 t295 ((t294.length : Int) == 0)) else (partitalaw26_PagesBehind.j0 k y290 a1 a2 t289 t294 t295 true)) = some r := H
     have A8 := Aside0.mk A80
     clear A80
     have HC9 := Aside0.mk H
     clear H
     go_enter Tryd.func6, Tryd.ntmps6
     go_upto_region 4 with (first | (go_at_call 10; (with_reducible refine (Few_cut _ _ _ _ _ _ (by assumption) (by assumption) (by first | exact HC0.out | exact HC1.out)).mono ?_); rintro e w' ⟨rfl, rfl⟩) | ((with_reducible refine gate_callee (f := 9) rfl ?_); refine goesL_ (some 14) rfl rfl Tryd.func9 (by kernel_rfl) rfl #[] rfl (by (try simp only [List.map_toArray, List.map_cons, List.map_nil]); first | done | rfl | (simp only [List.length_drop, List.length_take]; rfl)) ?_; (with_reducible refine (partitalaw26_shown.calls k  t289 _ A4.out).mono ?_); rintro e w10 ⟨rfl, hb⟩; refine ⟨_, rfl, ?_⟩; have n0_ := Aside0.mk (below_step (by repeat (first | (with_reducible first | exact HB.out | apply below_alloc | apply pw_below_drewN | apply below_drew1) | exact HB.out)) hb); clear HB; have HB := n0_; clear n0_; (try clear hb); (try clear hb2); (try clear hk); (try clear hi); have q11 : ((ji5) : Int) ≤ ((l0.length : Int) : Int) := of_decide_eq_true (by first | (with_reducible assumption) | assumption); obtain ⟨i011, hi011, _, hsz11, _⟩ := info_parts info3; have hroom11 : l0.length ≤ c0 := HC0.out; have hC11 : Kd.C (Kd.int .i64) _ A0 l0.length l0 := HR0.out; have hcut11 := cut_to (P := Tryd.prog) 22 3 .i64 Tryd.underlying22 hi011 A0 l0.length c0 (ji5) (of_decide_eq_true (by first | (with_reducible assumption) | assumption)) q11 hroom11; have hr11 := Kd.C_take (m := ((ji5) : Int).toNat) hC11 (by omega); have hy11 : y290.length = ((ji5) : Int).toNat := (by rw [Ny290.out, List.length_take]; omega); rw [← Ny290.out] at hr11; rw [← hy11] at hcut11; have HR293 := Aside0.mk hr11; have HC293 := Aside0.mk (show y290.length ≤ c0 from by omega); clear hr11 hC11 hroom11 hi011 hsz11; have KY11 := Aside0.mk hy11; clear hy11; replace q11 := eq_true q11) | ((with_reducible refine gate_callee (f := 12) rfl ?_); refine goesL_ (some 21) rfl rfl Tryd.func12 (by kernel_rfl) rfl #[.slice A0 y290.length c0, .int .i64 a1, .int .i64 a2] rfl (by (try simp only [List.map_toArray, List.map_cons, List.map_nil]); first | done | rfl | (simp only [List.length_drop, List.length_take]; rfl)) ?_; (with_reducible refine (pages_Break.calls _ _ y290 a1 a2 t294 t295 _ ?side1 ?side2 A8.out).mono ?_); (case side1 => repeat (first | exact (Kd.C_below HR293.out HB.out) | (with_reducible refine Kd.C_alloc ?_ _) | (with_reducible refine Kd.C_drewN ?_ _) | (with_reducible refine Kd.C_drew ?_))); (case side2 => exact HC293.out); rintro e w12 ⟨v296, rfl, ho0, hb⟩; refine ⟨_, rfl, ?_⟩; have n0_ := Aside0.mk (Kd.S_lower ho0 (below_size (by repeat (first | (with_reducible first | exact HB.out | apply below_alloc | apply pw_below_drewN | apply below_drew1) | exact HB.out)))); have n1_ := Aside0.mk (below_step (by repeat (first | (with_reducible first | exact HB.out | apply below_alloc | apply pw_below_drewN | apply below_drew1) | exact HB.out)) hb); clear HB; have HO297 := n0_; have HB := n1_; clear n0_ n1_; (try clear hb); (try clear hb2); (try clear hk); (try clear hi); (try clear ho0)))
     (try simp only [Act.put, qa_, qz_, qs_])
     go_cut [30] (fun v30 wc => ∃ (kq : Nat) (x30_8 : Bool), v30 = .bool x30_8 ∧ Aside0 (partitalaw26_PagesBehind.j0 kq y290 a1 a2 t289 t294 t295 x30_8 = some r) ∧ Aside0 (kq ≤ k) ∧ Aside0 (Kd.S k37 37 wc w.heap.size (fun _ => True) v296 t294) ∧ Aside0 (Below w.heap.size w wc))
     case first =>
      have H := HC9.out
      clear HC9
      by_cases c13 : t295 = 0
      · rw [if_pos c13] at H
        have c13b0 : (t295 == 0) = true := beq_iff_eq.mpr c13
        have c13b1 : (t295 != 0) = false := bne_eq_false_iff_eq.mpr c13
        clear c13
        (first | rw [c13b0] | (simp only [i64_w, i32_w]; rw [c13b0]) | skip)
        have H' := Aside0.mk H
        clear H
        obtain ⟨Ao14, co14, eo14⟩ := Kd.S_slice HO297.out
        subst eo14
        go_wp2
        go_meet
        case rel => exact ⟨_, (((t294.length : Int) == 0)), (by first | rfl | (simp; done) | (simp [*]; done) | (simp [wrap64]; done)), H', ⟨by first | omega | exact Nat.le_refl _⟩, ⟨by (with_reducible repeat (first | apply Kd.S_alloc | apply Kd.S_drewN | apply Kd.S_drew)); exact HO297.out⟩, ⟨by repeat (first | (with_reducible first | exact HB.out | apply below_alloc | apply pw_below_drewN | apply below_drew1) | exact HB.out)⟩⟩
      · rw [if_neg c13] at H
        have c13b0 : (t295 == 0) = false := beq_eq_false_iff_ne.mpr c13
        have c13b1 : (t295 != 0) = true := bne_iff_ne.mpr c13
        (first | rw [c13b0] | (simp only [i64_w, i32_w]; rw [c13b0]) | skip)
        have H' := Aside0.mk H
        clear H
        go_wp2
        go_meet
        case rel => exact ⟨_, (true), (by first | rfl | (simp; done) | (simp [*]; done) | (simp [wrap64]; done)), H', ⟨by first | omega | exact Nat.le_refl _⟩, ⟨by (with_reducible repeat (first | apply Kd.S_alloc | apply Kd.S_drewN | apply Kd.S_drew)); exact HO297.out⟩, ⟨by repeat (first | (with_reducible first | exact HB.out | apply below_alloc | apply pw_below_drewN | apply below_drew1) | exact HB.out)⟩⟩
     case rest =>
      clear HC9
      try clear c1
      try clear q1
      try clear p2
      try clear c6
      try clear c6b0
      try clear c6b1
      try clear c7
      try clear c7b0
      try clear c7b1
      try clear c9
      try clear q11
      try clear c12
      try clear c13
      try clear c13b0
      try clear c13b1
      try clear q11
      obtain ⟨kq, x30_8, rfl, HA, HJ8, HO_8, HB⟩ := hcut
      cases kq with
      | zero => exact absurd HA.out (by simp [partitalaw26_PagesBehind.j0])
      | succ kj8 =>
       have H := HA.out
       clear HA
       simp only [partitalaw26_PagesBehind.j0] at H
       by_cases c15 : x30_8 = true
       · subst c15
         have H1 : (if t289 = true then (if t295 = 0 then (some ((y290.length : Int) == 0)) else (some true)) else none) = some r := by rw [if_pos rfl] at H; exact H
         clear H
         have H := H1
         clear H1
         by_cases c16 : t289 = true
         · subst c16
           have H1 : (if t295 = 0 then (some ((y290.length : Int) == 0)) else (some true)) = some r := by rw [if_pos rfl] at H; exact H
           clear H
           have H := H1
           clear H1
           by_cases c17 : t295 = 0
           · rw [if_pos c17] at H
             have c17b0 : (t295 == 0) = true := beq_iff_eq.mpr c17
             have c17b1 : (t295 != 0) = false := bne_eq_false_iff_eq.mpr c17
             clear c17
             obtain rfl := Option.some.inj H
             go_wp2
             go_ret
             exact ⟨by first | rfl | (simp [errW_none, errW_some] <;> rfl) | (simp only [← hji5]; first | rfl | (simp [errW_none, errW_some] <;> rfl)) | (simp [*, errW_none, errW_some] <;> rfl), by repeat (first | (with_reducible first | exact HB.out | apply below_alloc | apply pw_below_drewN | apply below_drew1) | exact HB.out)⟩
           · rw [if_neg c17] at H
             have c17b0 : (t295 == 0) = false := beq_eq_false_iff_ne.mpr c17
             have c17b1 : (t295 != 0) = true := bne_iff_ne.mpr c17
             obtain rfl := Option.some.inj H
             go_wp2
             go_ret
             exact ⟨by first | rfl | (simp [errW_none, errW_some] <;> rfl) | (simp only [← hji5]; first | rfl | (simp [errW_none, errW_some] <;> rfl)) | (simp [*, errW_none, errW_some] <;> rfl), by repeat (first | (with_reducible first | exact HB.out | apply below_alloc | apply pw_below_drewN | apply below_drew1) | exact HB.out)⟩
         · replace c16 := Bool.eq_false_iff.mpr c16
           subst c16
           have H1 : none = some r := by rw [if_neg (show ¬ (false = true) by decide)] at H; exact H
           cases H1
       · replace c15 := Bool.eq_false_iff.mpr c15
         subst c15
         have H1 : (if 0 < (t294.length : Int) then (if ((rd_T37 t294 0).f1) < 1 then (partitalaw26_PagesBehind.j1 kj8 y290 a1 a2 t289 t294 ((rd_T37 t294 0).f1) true) else (partitalaw26_PagesBehind.j1 kj8 y290 a1 a2 t289 t294 ((rd_T37 t294 0).f1) (decide (((rd_T37 t294 0).f1) > (y290.length : Int))))) else (none)) = some r := by rw [if_neg (show ¬ (false = true) by decide)] at H; exact H
         clear H
         have H := H1
         clear H1
         by_cases c18 : 0 < (t294.length : Int)
         · rw [if_pos c18] at H
           have c18b0 : decide (0 < (t294.length : Int)) = true := decide_eq_true c18
           have c18b1 : decide (0 < t294.length) = true := decide_eq_true (by omega)
           clear c18
           have HC19 := Aside0.mk H
           clear H
           obtain ⟨Ao20, co20, eo20⟩ := Kd.S_slice HO_8.out
           subst eo20
           have p298 : 0 ≤ (0 : Int) := (by omega)
           have q298 : 0 < (t294.length : Int) := of_decide_eq_true (by first | (with_reducible assumption) | assumption)
           obtain ⟨ad298, A298_2, c298_2, e298, hx298_0, hx298_1, hx298_2, hl298_2, hi298_2⟩ := at_T37 (Kd.S_reads' HO_8.out).2.2 0 p298 q298
           cases e298
           obtain ⟨ce298, hce298, hMe298, hcc298⟩ := Kd.S_get HO_8.out z37 0 p298 (by first | exact q298 | exact of_decide_eq_true (by first | (with_reducible assumption) | assumption) | (have e_ := (Kd.S_reads' HO_8.out).1; omega))
           obtain ⟨ve298_2, rfl, ge298_2⟩ := k37_openM hMe298
           have hv298_2 := hcc298 2 _ rfl
           rw [add_field _ _ 2 (by omega)] at hv298_2
           replace hv298_2 := Option.some.inj (hv298_2.symm.trans hx298_2)
           rw [hv298_2] at ge298_2
           have HL298_2 := Aside0.mk (show Kd.R (Kd.int .i64) 3 _ _ _ _ ((rd_T37 t294 0).f2) from ge298_2)
           clear hv298_2 ge298_2
           clear hcc298 hce298
           have qi298 : (0 < t294.length) = True := eq_true (by omega)
           (try rw [show ((0 : Int)).toNat = 0 from rfl] at hx298_0)
           (try rw [show 0 * 3 = 0 from rfl] at hx298_0)
           (try rw [Addr.add_zero'] at hx298_0)
           (try rw [show ((0 : Int)).toNat = 0 from rfl] at hx298_1)
           (try rw [show 0 * 3 = 0 from rfl] at hx298_1)
           (try rw [Addr.add_zero'] at hx298_1)
           (try rw [show ((0 : Int)).toNat = 0 from rfl] at hx298_2)
           (try rw [show 0 * 3 = 0 from rfl] at hx298_2)
           (try rw [Addr.add_zero'] at hx298_2)
           have HR298_2 := Aside0.mk hi298_2
           have HC298_2 := Aside0.mk hl298_2
           clear hi298_2 hl298_2
           replace p298 := eq_true p298
           replace q298 := eq_true q298
           go_upto_region 7 with (fail)
           go_cut [52] (fun v52 wc => ∃ (kq : Nat) (x52_18 : Bool), v52 = .bool x52_18 ∧ Aside0 (partitalaw26_PagesBehind.j1 kq y290 a1 a2 t289 t294 ((rd_T37 t294 0).f1) x52_18 = some r) ∧ Aside0 (kq ≤ kj8) ∧ Aside0 (Kd.S k37 37 wc w.heap.size (fun _ => True) (.slice (some ad298) t294.length co20) t294) ∧ Aside0 (Kd.C (Kd.int .i64) wc A298_2 ((rd_T37 t294 0).f2).length ((rd_T37 t294 0).f2)) ∧ Aside0 (Below w.heap.size w wc))
           case first =>
            have H := HC19.out
            clear HC19
            by_cases c21 : ((rd_T37 t294 0).f1) < 1
            · rw [if_pos c21] at H
              have c21b0 : decide (((rd_T37 t294 0).f1) < 1) = true := decide_eq_true c21
              clear c21
              (first | rw [c21b0] | (simp only [i64_w, i32_w]; rw [c21b0]) | skip)
              have H' := Aside0.mk H
              clear H
              go_wp2
              go_meet
              case rel => exact ⟨_, (true), (by first | rfl | (simp; done) | (simp [*]; done) | (simp [wrap64]; done)), H', ⟨by have := HJ8.out; first | omega | exact Nat.le_refl _⟩, ⟨by (with_reducible repeat (first | apply Kd.S_alloc | apply Kd.S_drewN | apply Kd.S_drew)); exact HO_8.out⟩, ⟨by repeat (first | (with_reducible exact HR298_2.out) | (with_reducible refine Kd.C_alloc ?_ _) | (with_reducible refine Kd.C_drewN ?_ _) | (with_reducible refine Kd.C_drew ?_) | exact HR298_2.out)⟩, ⟨by repeat (first | (with_reducible first | exact HB.out | apply below_alloc | apply pw_below_drewN | apply below_drew1) | exact HB.out)⟩⟩
            · rw [if_neg c21] at H
              have c21b0 : decide (((rd_T37 t294 0).f1) < 1) = false := decide_eq_false c21
              clear c21
              (first | rw [c21b0] | (simp only [i64_w, i32_w]; rw [c21b0]) | skip)
              have H' := Aside0.mk H
              clear H
              go_wp2
              go_meet
              case rel => exact ⟨_, (decide (((rd_T37 t294 0).f1) > (y290.length : Int))), (by first | rfl | (simp; done) | (simp [*]; done) | (simp [wrap64]; done)), H', ⟨by have := HJ8.out; first | omega | exact Nat.le_refl _⟩, ⟨by (with_reducible repeat (first | apply Kd.S_alloc | apply Kd.S_drewN | apply Kd.S_drew)); exact HO_8.out⟩, ⟨by repeat (first | (with_reducible exact HR298_2.out) | (with_reducible refine Kd.C_alloc ?_ _) | (with_reducible refine Kd.C_drewN ?_ _) | (with_reducible refine Kd.C_drew ?_) | exact HR298_2.out)⟩, ⟨by repeat (first | (with_reducible first | exact HB.out | apply below_alloc | apply pw_below_drewN | apply below_drew1) | exact HB.out)⟩⟩
           case rest =>
            clear HC19
            try clear c1
            try clear q1
            try clear c2
            try clear p2
            try clear q2
            try clear hx2
            try clear qi2
            try clear c6
            try clear c6b0
            try clear c6b1
            try clear c7
            try clear c7b0
            try clear c7b1
            try clear c9
            try clear q11
            try clear c12
            try clear c13
            try clear c13b0
            try clear c13b1
            try clear c15
            try clear c16
            try clear c17
            try clear c17b0
            try clear c17b1
            try clear c18
            try clear c18b0
            try clear c18b1
            try clear c21
            try clear c21b0
            try clear hx298_0
            try clear hx298_1
            try clear hx298_2
            try clear p2
            try clear p298
            try clear q1
            try clear q11
            try clear q298
            obtain ⟨kq, x52_18, rfl, HA, HJ18, HO_8, HR298_2, HB⟩ := hcut
            cases kq with
            | zero => exact absurd HA.out (by simp [partitalaw26_PagesBehind.j1])
            | succ kj18 =>
             have H := HA.out
             clear HA
             simp only [partitalaw26_PagesBehind.j1] at H
             by_cases c22 : x52_18 = true
             · subst c22
               have H1 : none = some r := by rw [if_pos rfl] at H; exact H
               cases H1
             · replace c22 := Bool.eq_false_iff.mpr c22
               subst c22
               have H1 : (if 0 ≤ ((rd_T37 t294 0).f1) then (if ((rd_T37 t294 0).f1) ≤ (y290.length : Int) then ((pages_Break.f (y290.drop (((rd_T37 t294 0).f1) : Int).toNat) a1 a2).bind fun bt303 => (if bt303.2 = 0 then (partitalaw26_PagesBehind.j2 kj18 t289 t294 ((rd_T37 t294 0).f1) bt303.1 ((bt303.1.length : Int) != (wrap64 ((t294.length : Int) - 1)))) else (partitalaw26_PagesBehind.j2 kj18 t289 t294 ((rd_T37 t294 0).f1) bt303.1 true))) else (none)) else (none)) = some r := by rw [if_neg (show ¬ (false = true) by decide)] at H; exact H
               clear H
               have H := H1
               clear H1
               by_cases c23 : 0 ≤ ((rd_T37 t294 0).f1)
               · rw [if_pos c23] at H
                 have c23b0 := eq_true c23
                 have c23b1 : decide (0 ≤ ((rd_T37 t294 0).f1)) = true := decide_eq_true c23
                 clear c23
                 by_cases c24 : ((rd_T37 t294 0).f1) ≤ (y290.length : Int)
                 · rw [if_pos c24] at H
                   have c24b0 := eq_true c24
                   have c24b1 : decide (((rd_T37 t294 0).f1) ≤ (y290.length : Int)) = true := decide_eq_true c24
                   clear c24
                   obtain ⟨y299, hy299⟩ : ∃ y_ : List Int, y_ = (y290.drop (((rd_T37 t294 0).f1) : Int).toNat) := ⟨_, rfl⟩
                   replace H : ((pages_Break.f y299 a1 a2).bind fun bt303 => (if bt303.2 = 0 then (partitalaw26_PagesBehind.j2 kj18 t289 t294 ((rd_T37 t294 0).f1) bt303.1 ((bt303.1.length : Int) != (wrap64 ((t294.length : Int) - 1)))) else (partitalaw26_PagesBehind.j2 kj18 t289 t294 ((rd_T37 t294 0).f1) bt303.1 true))) = some r := by first | (rw [hy299]; with_reducible exact H) | (have H2_ := (Option.bind_some _ _).symm.trans H; rw [hy299]; with_reducible exact H2_) | (have H2_ := (Option.bind_some _ _).symm.trans H; with_reducible exact H2_) | with_reducible exact H | (rw [hy299]; exact H) | exact H
                   have Ny299 := Aside0.mk hy299
                   clear hy299
                   replace H := Option.bind_eq_some_iff.mp H
                   obtain ⟨⟨t303, t304⟩, A250, H⟩ := H
                   replace H : (if t304 = 0 then (partitalaw26_PagesBehind.j2 kj18 t289 t294 ((rd_T37 t294 0).f1) t303 ((t303.length : Int) != (wrap64 ((t294.length : Int) - 1)))) else (partitalaw26_PagesBehind.j2 kj18 t289 t294 ((rd_T37 t294 0).f1) t303 true)) = some r := H
                   have A25 := Aside0.mk A250
                   clear A250
                   have HC26 := Aside0.mk H
                   clear H
                   have q27 : (((rd_T37 t294 0).f1) : Int) ≤ ((y290.length : Int) : Int) := of_decide_eq_true (by first | (with_reducible assumption) | assumption)
                   obtain ⟨i027, hi027, _, hsz27, _⟩ := info_parts info3
                   have hroom27 : y290.length ≤ c0 := HC293.out
                   have hC27 : Kd.C (Kd.int .i64) _ A0 y290.length y290 := HR293.out
                   have q027 : (0 : Int) ≤ (((rd_T37 t294 0).f1) : Int) := of_decide_eq_true (by first | (with_reducible assumption) | assumption)
                   have hcut27 := cut_from (P := Tryd.prog) 22 3 .i64 Tryd.underlying22 hi027 1 hsz27 A0 y290.length c0 ((rd_T37 t294 0).f1) q027 q27
                   have hr27 := Kd.C_drop (m := (((rd_T37 t294 0).f1) : Int).toNat) (c := c0) hC27 (by omega) hroom27
                   obtain ⟨A27, hA27⟩ : ∃ z_, z_ = (if c0 = (((rd_T37 t294 0).f1) : Int).toNat then A0 else (A0 : Option Addr).map (·.add ((((rd_T37 t294 0).f1) : Int).toNat * 1))) := ⟨_, rfl⟩
                   obtain ⟨c27, hc27⟩ : ∃ z_, z_ = c0 - (((rd_T37 t294 0).f1) : Int).toNat := ⟨_, rfl⟩
                   have hy27 : y299.length = y290.length - (((rd_T37 t294 0).f1) : Int).toNat := (by rw [Ny299.out, List.length_drop] <;> omega)
                   rw [show (y290).drop (((rd_T37 t294 0).f1) : Int).toNat = y299 from Ny299.out.symm] at hr27
                   replace hr27 : Kd.C (Kd.int .i64) _ A27 y299.length y299 := (by rw [hA27]; exact hr27)
                   rw [← hy27, ← hA27, ← hc27] at hcut27
                   have HR302 := Aside0.mk hr27
                   have HC302 := Aside0.mk (show y299.length ≤ c27 from by rw [hy27, hc27]; exact Nat.sub_le_sub_right hroom27 _)
                   clear hr27 hC27 hroom27 hi027 hsz27 hc27
                   have KY27 := Aside0.mk hy27
                   have KA27 := Aside0.mk hA27
                   clear hy27 hA27
                   replace q27 := eq_true q27
                   go_upto_region 10 with (first | (go_at_call 10; (with_reducible refine (Few_cut _ _ _ _ _ _ (by assumption) (by assumption) (by first | exact HC0.out | exact HC1.out)).mono ?_); rintro e w' ⟨rfl, rfl⟩) | ((with_reducible refine gate_callee (f := 12) rfl ?_); refine goesL_ (some 59) rfl rfl Tryd.func12 (by kernel_rfl) rfl #[.slice A27 y299.length c27, .int .i64 a1, .int .i64 a2] rfl (by (try simp only [List.map_toArray, List.map_cons, List.map_nil]); first | done | rfl | (simp only [List.length_drop, List.length_take]; rfl)) ?_; (with_reducible refine (pages_Break.calls _ _ y299 a1 a2 t303 t304 _ ?side1 ?side2 A25.out).mono ?_); (case side1 => repeat (first | exact (Kd.C_below HR302.out HB.out) | (with_reducible refine Kd.C_alloc ?_ _) | (with_reducible refine Kd.C_drewN ?_ _) | (with_reducible refine Kd.C_drew ?_))); (case side2 => exact HC302.out); rintro e w28 ⟨v305, rfl, ho0, hb⟩; refine ⟨_, rfl, ?_⟩; have n0_ := Aside0.mk (Kd.S_elder' (by (with_reducible repeat (first | apply Kd.S_alloc | apply Kd.S_drewN | apply Kd.S_drew)); exact HO_8.out) (Kd.S_base ho0) hb); have n1_ := Aside0.mk (Kd.S_lower (Kd.S_new' ho0 (Kd.S_lt (by (with_reducible repeat (first | apply Kd.S_alloc | apply Kd.S_drewN | apply Kd.S_drew)); exact HO_8.out))) (below_size (by repeat (first | (with_reducible first | exact HB.out | apply below_alloc | apply pw_below_drewN | apply below_drew1) | exact HB.out)))); have n2_ := Aside0.mk (Kd.C_below (by repeat (first | (with_reducible exact HR298_2.out) | (with_reducible refine Kd.C_alloc ?_ _) | (with_reducible refine Kd.C_drewN ?_ _) | (with_reducible refine Kd.C_drew ?_) | exact HR298_2.out)) hb); have n3_ := Aside0.mk (below_step (by repeat (first | (with_reducible first | exact HB.out | apply below_alloc | apply pw_below_drewN | apply below_drew1) | exact HB.out)) hb); clear HO_8; clear HR298_2; clear HB; have HO_8 := n0_; have HO306 := n1_; have HR298_2 := n2_; have HB := n3_; clear n0_ n1_ n2_ n3_; (try clear hb); (try clear hb2); (try clear hk); (try clear hi); (try clear ho0)))
                   (try simp only [Act.put, qa_, qz_, qs_])
                   go_cut [71] (fun v71 wc => ∃ (kq : Nat) (x71_25 : Bool), v71 = .bool x71_25 ∧ Aside0 (partitalaw26_PagesBehind.j2 kq t289 t294 ((rd_T37 t294 0).f1) t303 x71_25 = some r) ∧ Aside0 (kq ≤ kj18) ∧ Aside0 (Kd.S k37 37 wc w.heap.size (fun k_ => some k_ ≠ (v305 : Value).ownBlock) (.slice (some ad298) t294.length co20) t294) ∧ Aside0 (Kd.S k37 37 wc w.heap.size (fun k_ => some k_ ≠ ((.slice (some ad298) t294.length co20) : Value).ownBlock) v305 t303) ∧ Aside0 (Kd.C (Kd.int .i64) wc A298_2 ((rd_T37 t294 0).f2).length ((rd_T37 t294 0).f2)) ∧ Aside0 (Below w.heap.size w wc))
                   case first =>
                    have H := HC26.out
                    clear HC26
                    by_cases c29 : t304 = 0
                    · rw [if_pos c29] at H
                      have c29b0 : (t304 == 0) = true := beq_iff_eq.mpr c29
                      have c29b1 : (t304 != 0) = false := bne_eq_false_iff_eq.mpr c29
                      clear c29
                      (first | rw [c29b0] | (simp only [i64_w, i32_w]; rw [c29b0]) | skip)
                      have H' := Aside0.mk H
                      clear H
                      obtain ⟨Ao30, co30, eo30⟩ := Kd.S_slice HO306.out
                      subst eo30
                      go_wp2
                      go_meet
                      case rel => exact ⟨_, (((t303.length : Int) != (wrap64 ((t294.length : Int) - 1)))), (by first | rfl | (simp; done) | (simp [*]; done) | (simp [wrap64]; done)), H', ⟨by have := HJ8.out; have := HJ18.out; first | omega | exact Nat.le_refl _⟩, ⟨by (with_reducible repeat (first | apply Kd.S_alloc | apply Kd.S_drewN | apply Kd.S_drew)); exact Kd.S_mono HO_8.out (fun _ hk => hk.2)⟩, ⟨by (with_reducible repeat (first | apply Kd.S_alloc | apply Kd.S_drewN | apply Kd.S_drew)); exact Kd.S_mono HO306.out (fun _ hk => hk.2)⟩, ⟨by repeat (first | (with_reducible exact HR298_2.out) | (with_reducible refine Kd.C_alloc ?_ _) | (with_reducible refine Kd.C_drewN ?_ _) | (with_reducible refine Kd.C_drew ?_) | exact HR298_2.out)⟩, ⟨by repeat (first | (with_reducible first | exact HB.out | apply below_alloc | apply pw_below_drewN | apply below_drew1) | exact HB.out)⟩⟩
                    · rw [if_neg c29] at H
                      have c29b0 : (t304 == 0) = false := beq_eq_false_iff_ne.mpr c29
                      have c29b1 : (t304 != 0) = true := bne_iff_ne.mpr c29
                      (first | rw [c29b0] | (simp only [i64_w, i32_w]; rw [c29b0]) | skip)
                      have H' := Aside0.mk H
                      clear H
                      go_wp2
                      go_meet
                      case rel => exact ⟨_, (true), (by first | rfl | (simp; done) | (simp [*]; done) | (simp [wrap64]; done)), H', ⟨by have := HJ8.out; have := HJ18.out; first | omega | exact Nat.le_refl _⟩, ⟨by (with_reducible repeat (first | apply Kd.S_alloc | apply Kd.S_drewN | apply Kd.S_drew)); exact Kd.S_mono HO_8.out (fun _ hk => hk.2)⟩, ⟨by (with_reducible repeat (first | apply Kd.S_alloc | apply Kd.S_drewN | apply Kd.S_drew)); exact Kd.S_mono HO306.out (fun _ hk => hk.2)⟩, ⟨by repeat (first | (with_reducible exact HR298_2.out) | (with_reducible refine Kd.C_alloc ?_ _) | (with_reducible refine Kd.C_drewN ?_ _) | (with_reducible refine Kd.C_drew ?_) | exact HR298_2.out)⟩, ⟨by repeat (first | (with_reducible first | exact HB.out | apply below_alloc | apply pw_below_drewN | apply below_drew1) | exact HB.out)⟩⟩
                   case rest =>
                    clear HC26
                    try clear c1
                    try clear q1
                    try clear c2
                    try clear p2
                    try clear q2
                    try clear hx2
                    try clear qi2
                    try clear c6
                    try clear c6b0
                    try clear c6b1
                    try clear p6
                    try clear c7
                    try clear c7b0
                    try clear c7b1
                    try clear c9
                    try clear q11
                    try clear c12
                    try clear c13
                    try clear c13b0
                    try clear c13b1
                    try clear c15
                    try clear c16
                    try clear c17
                    try clear c17b0
                    try clear c17b1
                    try clear c18
                    try clear c18b0
                    try clear c18b1
                    try clear c21
                    try clear c21b0
                    try clear c22
                    try clear c23
                    try clear c23b0
                    try clear c23b1
                    try clear c24
                    try clear c24b0
                    try clear c24b1
                    try clear c27
                    try clear q27
                    try clear c29
                    try clear c29b0
                    try clear c29b1
                    try clear p29
                    try clear q29
                    try clear hx29
                    try clear qi29
                    try clear hx298_0
                    try clear hx298_1
                    try clear hx298_2
                    try clear p2
                    try clear p298
                    try clear q027
                    try clear q1
                    try clear q11
                    try clear q2
                    try clear q27
                    try clear q298
                    obtain ⟨kq, x71_25, rfl, HA, HJ25, HO_8, HO_11, HR298_2, HB⟩ := hcut
                    cases kq with
                    | zero => exact absurd HA.out (by simp [partitalaw26_PagesBehind.j2])
                    | succ kj25 =>
                     have H := HA.out
                     clear HA
                     simp only [partitalaw26_PagesBehind.j2] at H
                     by_cases c31 : x71_25 = true
                     · subst c31
                       have H1 : none = some r := by rw [if_pos rfl] at H; exact H
                       cases H1
                     · replace c31 := Bool.eq_false_iff.mpr c31
                       subst c31
                       have H1 : (partitalaw26_PagesBehind.l0 kj25 t289 t294 ((rd_T37 t294 0).f1) t303 0) = some r := by rw [if_neg (show ¬ (false = true) by decide)] at H; exact H
                       clear H
                       have H := H1
                       clear H1
                       have H' := Aside0.mk H
                       clear H
                       go_wp2
                       go_loopg [13] kj25 (fun kq v13 w' => ∃ (x11_4 : List (S37)) (x13_4 : Int), v13 = .int .i64 x13_4 ∧ Aside0 (partitalaw26_PagesBehind.l0 kq t289 t294 ((rd_T37 t294 0).f1) x11_4 x13_4 = some r) ∧ Aside0 (kq ≤ kj25) ∧ Aside0 (Kd.S k37 37 w' w.heap.size (fun k_ => some k_ ≠ (v305 : Value).ownBlock) (.slice (some ad298) t294.length co20) t294) ∧ Aside0 (Kd.S k37 37 w' w.heap.size (fun k_ => some k_ ≠ ((.slice (some ad298) t294.length co20) : Value).ownBlock) v305 x11_4) ∧ Aside0 (Below w.heap.size w w'))
                       case atStart => exact ⟨(t303), (0), (by first | rfl | (simp; done) | (simp [*]; done) | (simp [wrap64]; done)), H', ⟨Nat.le_refl _⟩, ⟨by (with_reducible repeat (first | apply Kd.S_alloc | apply Kd.S_drewN | apply Kd.S_drew)); exact HO_8.out⟩, ⟨by (with_reducible repeat (first | apply Kd.S_alloc | apply Kd.S_drewN | apply Kd.S_drew)); exact HO_11.out⟩, ⟨by repeat (first | (with_reducible first | exact HB.out | apply below_alloc | apply pw_below_drewN | apply below_drew1) | exact HB.out)⟩⟩
                       case round =>
                        clear H'
                        try clear c1
                        try clear q1
                        try clear c2
                        try clear p2
                        try clear q2
                        try clear hx2
                        try clear qi2
                        try clear c3
                        try clear c6
                        try clear c6b0
                        try clear c6b1
                        try clear p6
                        try clear c7
                        try clear c7b0
                        try clear c7b1
                        try clear c9
                        try clear q11
                        try clear c12
                        try clear c13
                        try clear c13b0
                        try clear c13b1
                        try clear c15
                        try clear c16
                        try clear c17
                        try clear c17b0
                        try clear c17b1
                        try clear c18
                        try clear c18b0
                        try clear c18b1
                        try clear c21
                        try clear c21b0
                        try clear c22
                        try clear c23
                        try clear c23b0
                        try clear c23b1
                        try clear c24
                        try clear c24b0
                        try clear c24b1
                        try clear c27
                        try clear q27
                        try clear c29
                        try clear c29b0
                        try clear c29b1
                        try clear p29
                        try clear q29
                        try clear hx29
                        try clear qi29
                        try clear c31
                        try clear hx298_0
                        try clear hx298_1
                        try clear hx298_2
                        try clear p2
                        try clear p29
                        try clear p298
                        try clear p6
                        try clear q027
                        try clear q1
                        try clear q11
                        try clear q2
                        try clear q27
                        try clear q29
                        try clear q298
                        obtain ⟨x11_4, x13_4, rfl, HA, HK4, HO_8, HO_11, HB⟩ := hrel
                        cases gk with
                        | zero => exact absurd HA.out (by simp [partitalaw26_PagesBehind.l0])
                        | succ k4 =>
                         have H := HA.out
                         clear HA
                         simp only [partitalaw26_PagesBehind.l0] at H
                         by_cases c32 : x13_4 < (x11_4.length : Int)
                         · rw [if_pos c32] at H
                           have c32b0 : decide (x13_4 < (x11_4.length : Int)) = true := decide_eq_true c32
                           clear c32
                           by_cases c33 : 0 ≤ x13_4
                           · rw [if_pos c33] at H
                             have c33b0 : decide (0 ≤ x13_4) = true := decide_eq_true c33
                             clear c33
                             obtain ⟨y308, hy308⟩ : ∃ y_ : List (S37), y_ = (x11_4.set (x13_4 : Int).toNat (⟨wrap64 (((rd_T37 x11_4 x13_4).f0) + ((rd_T37 t294 0).f1)), (rd_T37 x11_4 x13_4).f1, (rd_T37 x11_4 x13_4).f2⟩ : S37)) := ⟨_, rfl⟩
                             replace H : (partitalaw26_PagesBehind.l0 k4 t289 t294 ((rd_T37 t294 0).f1) (y308.set (x13_4 : Int).toNat (⟨(rd_T37 y308 x13_4).f0, wrap64 (((rd_T37 y308 x13_4).f1) + ((rd_T37 t294 0).f1)), (rd_T37 y308 x13_4).f2⟩ : S37)) (wrap64 (x13_4 + 1))) = some r := by first | (rw [hy308]; with_reducible exact H) | (have H2_ := (Option.bind_some _ _).symm.trans H; rw [hy308]; with_reducible exact H2_) | (have H2_ := (Option.bind_some _ _).symm.trans H; with_reducible exact H2_) | with_reducible exact H | (rw [hy308]; exact H) | exact H
                             have Ny308 := Aside0.mk hy308
                             clear hy308
                             obtain ⟨y310, hy310⟩ : ∃ y_ : List (S37), y_ = (y308.set (x13_4 : Int).toNat (⟨(rd_T37 y308 x13_4).f0, wrap64 (((rd_T37 y308 x13_4).f1) + ((rd_T37 t294 0).f1)), (rd_T37 y308 x13_4).f2⟩ : S37)) := ⟨_, rfl⟩
                             replace H : (partitalaw26_PagesBehind.l0 k4 t289 t294 ((rd_T37 t294 0).f1) y310 (wrap64 (x13_4 + 1))) = some r := by first | (rw [hy310]; with_reducible exact H) | (have H2_ := (Option.bind_some _ _).symm.trans H; rw [hy310]; with_reducible exact H2_) | (have H2_ := (Option.bind_some _ _).symm.trans H; with_reducible exact H2_) | with_reducible exact H | (rw [hy310]; exact H) | exact H
                             have Ny310 := Aside0.mk hy310
                             clear hy310
                             have H' := Aside0.mk H
                             clear H
                             obtain ⟨Ao36, co36, eo36⟩ := Kd.S_slice HO_11.out
                             subst eo36
                             have p307 : 0 ≤ (x13_4 : Int) := of_decide_eq_true (by first | (with_reducible assumption) | assumption)
                             have q307 : x13_4 < (x11_4.length : Int) := of_decide_eq_true (by first | (with_reducible assumption) | assumption)
                             obtain ⟨ad307, A307_2, c307_2, e307, hx307_0, hx307_1, hx307_2, hl307_2, hi307_2⟩ := at_T37 (Kd.S_reads' HO_11.out).2.2 x13_4 p307 q307
                             cases e307
                             obtain ⟨ce307, hce307, hMe307, hcc307⟩ := Kd.S_get HO_11.out z37 x13_4 p307 (by first | exact q307 | exact of_decide_eq_true (by first | (with_reducible assumption) | assumption) | (have e_ := (Kd.S_reads' HO_11.out).1; omega))
                             obtain ⟨ve307_2, rfl, ge307_2⟩ := k37_openM hMe307
                             have hv307_2 := hcc307 2 _ rfl
                             rw [add_field _ _ 2 (by omega)] at hv307_2
                             replace hv307_2 := Option.some.inj (hv307_2.symm.trans hx307_2)
                             rw [hv307_2] at ge307_2
                             have HL307_2 := Aside0.mk (show Kd.R (Kd.int .i64) 3 _ _ _ _ ((rd_T37 x11_4 x13_4).f2) from ge307_2)
                             clear hv307_2 ge307_2
                             clear hcc307 hce307
                             have HR307_2 := Aside0.mk hi307_2
                             have HC307_2 := Aside0.mk hl307_2
                             clear hi307_2 hl307_2
                             replace p307 := eq_true p307
                             replace q307 := eq_true q307
                             have p34 : 0 ≤ (x13_4 : Int) := of_decide_eq_true (by first | (with_reducible assumption) | assumption)
                             have q34 : (x13_4 : Int) < ((x11_4.length : Int) : Int) := of_decide_eq_true (by first | (with_reducible assumption) | assumption)
                             obtain ⟨go34, co34, eo34, gb34, gl34, cl34, HG34⟩ := Kd.S_form HO_11.out (by omega)
                             (first | cases eo34 | (injection eo34 with ea_ en_ ec_; (first | subst ea_ | (injection ea_ with ea_; subst ea_)); subst ec_; clear en_))
                             have GB34 := Aside0.mk gb34
                             have GG34 := Aside0.mk HG34
                             clear gb34 gl34 HG34
                             (first | simp only [add_plain] at hx307_0 | skip)
                             (first | simp only [add_plain] at hx307_1 | skip)
                             (first | simp only [add_plain] at hx307_2 | skip)
                             obtain ⟨_, ce34, hcl34, hM34, hcc34, hfr34, _, _⟩ := Kd.S_elem HO_11.out z37 (x13_4 : Int) p34 q34
                             obtain ⟨ve34_2, rfl, ge34_2⟩ := k37_openM hM34
                             have hx34_0 : wr.cell? ⟨go34, (x13_4 : Int).toNat * 3, none⟩ = some (.int .i64 ((rd_T37 x11_4 x13_4).f0)) := hcc34 0 _ rfl
                             have hx34_1 : wr.cell? ⟨go34, (x13_4 : Int).toNat * 3 + 1, none⟩ = some (.int .i64 ((rd_T37 x11_4 x13_4).f1)) := hcc34 1 _ rfl
                             have hx34_2 : wr.cell? ⟨go34, (x13_4 : Int).toNat * 3 + 2, none⟩ = some (ve34_2) := hcc34 2 _ rfl
                             have hf34_0 : wr.frozen? ⟨go34, (x13_4 : Int).toNat * 3, none⟩ = false := hfr34 0
                             have hf34_1 : wr.frozen? ⟨go34, (x13_4 : Int).toNat * 3 + 1, none⟩ = false := hfr34 1
                             have hf34_2 : wr.frozen? ⟨go34, (x13_4 : Int).toNat * 3 + 2, none⟩ = false := hfr34 2
                             clear hcl34 hcc34 hfr34 hM34
                             replace p34 := eq_true p34
                             replace q34 := eq_true q34
                             have HX37 := Aside0.mk (show Kd.S k37 37 wr w.heap.size (fun k_ => ((fun k_ => some k_ ≠ (.slice (some ad298) t294.length co20 : Value).ownBlock)) k_ ∧ ¬ ((fun _ => False)) k_) (.slice (some ⟨go34, 0, none⟩) x11_4.length co36) x11_4 from (by (with_reducible repeat (first | apply Kd.S_alloc | apply Kd.S_drewN | apply Kd.S_drew)); exact Kd.S_mono HO_11.out (fun k_ hk => ⟨hk, fun e_ => e_⟩)))
                             obtain ⟨oki37, ce37, hcl37, hM37, hcc37, hfr37, hoki37, hH37⟩ := Kd.S_elem HX37.out z37 (x13_4 : Int) (of_decide_eq_true (by first | (with_reducible assumption) | assumption)) (by have h_ : (x13_4 : Int) < ((x11_4.length : Int) : Int) := of_decide_eq_true (by first | (with_reducible assumption) | assumption); first | exact h_ | (have e_ := (Kd.S_reads' HO_11.out).1; omega) | simpa using h_)
                             obtain ⟨ve37_2, rfl, ge37_2⟩ := k37_openM hM37
                             have HP37 := Kd.S_seg hH37 (of_decide_eq_true (by first | (with_reducible assumption) | assumption)) (by have h_ : (x13_4 : Int) < ((x11_4.length : Int) : Int) := of_decide_eq_true (by first | (with_reducible assumption) | assumption); first | exact h_ | (have e_ := (Kd.S_reads' HO_11.out).1; omega) | simpa using h_) (seg := [.int .i64 (wrap64 (((rd_T37 x11_4 x13_4).f0) + ((rd_T37 t294 0).f1)))]) (j := 0) (show 1 ≤ 3 from by decide) (x' := (⟨wrap64 (((rd_T37 x11_4 x13_4).f0) + ((rd_T37 t294 0).f1)), (rd_T37 x11_4 x13_4).f1, (rd_T37 x11_4 x13_4).f2⟩ : S37)) (k37_mkM _ _ _ (⟨wrap64 (((rd_T37 x11_4 x13_4).f0) + ((rd_T37 t294 0).f1)), (rd_T37 x11_4 x13_4).f1, (rd_T37 x11_4 x13_4).f2⟩ : S37) (Kd.R_mono ge37_2 (fun _ h_ => Or.inl h_))) (fun _ hk => hk) (fun k_ hk_ => hk_.elim)
                             have hx37_0 := hcc37 0 _ rfl
                             (try simp only [show (k37).sz = 3 from rfl, Nat.mul_one, Nat.add_zero] at hx37_0)
                             have hf37_0 := hfr37 0
                             (try simp only [show (k37).sz = 3 from rfl, Nat.mul_one, Nat.add_zero] at hf37_0)
                             clear hcl37 hcc37 hfr37 hM37 hoki37 hH37
                             go_wp2_with (first | (go_at_call 10; (with_reducible refine (Few_cut _ _ _ _ _ _ (by assumption) (by assumption) (by first | exact HC0.out | exact HC1.out)).mono ?_); rintro e w' ⟨rfl, rfl⟩) | ((with_reducible refine gate_store (t := 3) (p := 88) rfl ?_); refine store_event (t := 3) (p := 88) (v := ?vo_w38) (w1 := (wr.setCell ⟨go34, (x13_4 : Int).toNat * 3, none⟩ (.int .i64 (wrap64 (((rd_T37 x11_4 x13_4).f0) + ((rd_T37 t294 0).f1)))))) ?hg ?ho ?hn ?hr ?_; (case ho => rfl); (case hg => rfl); (case hn => rfl); (case hr => first | (go_simp; done) | (go_simp; rfl)); intro w38 hw; have hg : wr.grownBy w38 (some go34) := (by rw [hw]; exact HP37.2); have hp_ : Kd.S k37 37 w38 w.heap.size (fun k_ => some k_ ≠ (.slice (some ad298) t294.length co20 : Value).ownBlock) (.slice (some ⟨go34, 0, none⟩) x11_4.length co36) y308 := (by rw [hw, Ny308.out]; exact HP37.1); clear HP37; have n0_ := Aside0.mk (Kd.S_after (v := (.slice (some ⟨go34, 0, none⟩) x11_4.length co36)) (v1 := (.slice (some ⟨go34, 0, none⟩) x11_4.length co36)) (ok := (fun _ => True)) (by (with_reducible repeat (first | apply Kd.S_alloc | apply Kd.S_drewN | apply Kd.S_drew)); exact Kd.S_mono HO_8.out (fun _ hk => ⟨trivial, hk⟩)) hg (.inl rfl)); have n1_ := Aside0.mk (hp_); have n2_ := Aside0.mk (Kd.R_after (v := (.slice (some ⟨go34, 0, none⟩) x11_4.length co36)) (v1 := (.slice (some ⟨go34, 0, none⟩) x11_4.length co36)) (ok := (fun k_ => some k_ ≠ (.slice (some ad298) t294.length co20 : Value).ownBlock)) (qR HL307_2.out) hg (.inl rfl)); have n3_ := Aside0.mk ((by rw [hw]; exact below_set (HB.out) GB34.out : Below w.heap.size w w38)); clear HO_8; clear HO_11; clear HL307_2; clear HB; have HO_8 := n0_; have HO_11 := n1_; have HL307_2 := n2_; have HB := n3_; clear n0_ n1_ n2_ n3_; clear hg hw hp_; have p309 : 0 ≤ (x13_4 : Int) := of_decide_eq_true (by first | (with_reducible assumption) | assumption); have q309 : x13_4 < (y308.length : Int) := (by have h_ : (x13_4 : Int) < ((x11_4.length : Int) : Int) := of_decide_eq_true (by first | (with_reducible assumption) | assumption); first | (have e_ := (Kd.S_reads' HO_11.out).1; omega) | simpa only [Ny308.out, List.length_set] using h_); have ql309 : ((x13_4 : Int) < ((x11_4.length : Int) : Int)) = True := eq_true (of_decide_eq_true (by first | (with_reducible assumption) | assumption)); obtain ⟨ad309, A309_2, c309_2, e309, hx309_0, hx309_1, hx309_2, hl309_2, hi309_2⟩ := at_T37 (Kd.S_reads' HO_11.out).2.2 x13_4 p309 q309; obtain rfl : (⟨go34, 0, none⟩ : Addr) = ad309 := (by injection e309); obtain ⟨ce309, hce309, hMe309, hcc309⟩ := Kd.S_get HO_11.out z37 x13_4 p309 (by first | exact q309 | exact of_decide_eq_true (by first | (with_reducible assumption) | assumption) | (have e_ := (Kd.S_reads' HO_11.out).1; omega)); obtain ⟨ve309_2, rfl, ge309_2⟩ := k37_openM hMe309; have hv309_2 := hcc309 2 _ rfl; rw [add_field _ _ 2 (by omega)] at hv309_2; replace hv309_2 := Option.some.inj (hv309_2.symm.trans hx309_2); rw [hv309_2] at ge309_2; have HL309_2 := Aside0.mk (show Kd.R (Kd.int .i64) 3 _ _ _ _ ((rd_T37 y308 x13_4).f2) from ge309_2); clear hv309_2 ge309_2; clear hcc309 hce309; (first | simp only [add_plain] at hx309_0 | simp only [add_at] at hx309_0 | simp only [Addr.add, Nat.zero_add] at hx309_0 | skip); (first | simp only [add_plain] at hx309_1 | simp only [add_at] at hx309_1 | simp only [Addr.add, Nat.zero_add] at hx309_1 | skip); (first | simp only [add_plain] at hx309_2 | simp only [add_at] at hx309_2 | simp only [Addr.add, Nat.zero_add] at hx309_2 | skip); have HR309_2 := Aside0.mk hi309_2; have HC309_2 := Aside0.mk hl309_2; clear hi309_2 hl309_2; replace p309 := eq_true p309; replace q309 := eq_true q309; have p35 : 0 ≤ (x13_4 : Int) := of_decide_eq_true (by first | (with_reducible assumption) | assumption); have q35 : (x13_4 : Int) < ((x11_4.length : Int) : Int) := of_decide_eq_true (by first | (with_reducible assumption) | assumption); obtain ⟨_, ce35, hcl35, hM35, hcc35, hfr35, _, _⟩ := Kd.S_elem HO_11.out z37 (x13_4 : Int) p35 q35; obtain ⟨ve35_2, rfl, ge35_2⟩ := k37_openM hM35; have hx35_0 : w38.cell? ⟨go34, (x13_4 : Int).toNat * 3, none⟩ = some (.int .i64 ((rd_T37 y308 x13_4).f0)) := hcc35 0 _ rfl; have hx35_1 : w38.cell? ⟨go34, (x13_4 : Int).toNat * 3 + 1, none⟩ = some (.int .i64 ((rd_T37 y308 x13_4).f1)) := hcc35 1 _ rfl; have hx35_2 : w38.cell? ⟨go34, (x13_4 : Int).toNat * 3 + 2, none⟩ = some (ve35_2) := hcc35 2 _ rfl; have hf35_0 : w38.frozen? ⟨go34, (x13_4 : Int).toNat * 3, none⟩ = false := hfr35 0; have hf35_1 : w38.frozen? ⟨go34, (x13_4 : Int).toNat * 3 + 1, none⟩ = false := hfr35 1; have hf35_2 : w38.frozen? ⟨go34, (x13_4 : Int).toNat * 3 + 2, none⟩ = false := hfr35 2; clear hcl35 hcc35 hfr35 hM35; replace p35 := eq_true p35; replace q35 := eq_true q35; have HX39 := Aside0.mk (show Kd.S k37 37 w38 w.heap.size (fun k_ => ((fun k_ => some k_ ≠ (.slice (some ad298) t294.length co20 : Value).ownBlock)) k_ ∧ ¬ ((fun _ => False)) k_) (.slice (some ⟨go34, 0, none⟩) x11_4.length co36) y308 from (by (with_reducible repeat (first | apply Kd.S_alloc | apply Kd.S_drewN | apply Kd.S_drew)); exact Kd.S_mono HO_11.out (fun k_ hk => ⟨hk, fun e_ => e_⟩))); obtain ⟨oki39, ce39, hcl39, hM39, hcc39, hfr39, hoki39, hH39⟩ := Kd.S_elem HX39.out z37 (x13_4 : Int) (of_decide_eq_true (by first | (with_reducible assumption) | assumption)) (by have h_ : (x13_4 : Int) < ((x11_4.length : Int) : Int) := of_decide_eq_true (by first | (with_reducible assumption) | assumption); first | exact h_ | (have e_ := (Kd.S_reads' HO_11.out).1; omega) | simpa using h_); obtain ⟨ve39_2, rfl, ge39_2⟩ := k37_openM hM39; have HP39 := Kd.S_seg hH39 (of_decide_eq_true (by first | (with_reducible assumption) | assumption)) (by have h_ : (x13_4 : Int) < ((x11_4.length : Int) : Int) := of_decide_eq_true (by first | (with_reducible assumption) | assumption); first | exact h_ | (have e_ := (Kd.S_reads' HO_11.out).1; omega) | simpa using h_) (seg := [.int .i64 (wrap64 (((rd_T37 y308 x13_4).f1) + ((rd_T37 t294 0).f1)))]) (j := 1) (show 2 ≤ 3 from by decide) (x' := (⟨(rd_T37 y308 x13_4).f0, wrap64 (((rd_T37 y308 x13_4).f1) + ((rd_T37 t294 0).f1)), (rd_T37 y308 x13_4).f2⟩ : S37)) (k37_mkM _ _ _ (⟨(rd_T37 y308 x13_4).f0, wrap64 (((rd_T37 y308 x13_4).f1) + ((rd_T37 t294 0).f1)), (rd_T37 y308 x13_4).f2⟩ : S37) (Kd.R_mono ge39_2 (fun _ h_ => Or.inl h_))) (fun _ hk => hk) (fun k_ hk_ => hk_.elim); have hx39_1 := hcc39 1 _ rfl; (try simp only [show (k37).sz = 3 from rfl, Nat.mul_one, Nat.add_zero] at hx39_1); have hf39_1 := hfr39 1; (try simp only [show (k37).sz = 3 from rfl, Nat.mul_one, Nat.add_zero] at hf39_1); clear hcl39 hcc39 hfr39 hM39 hoki39 hH39) | ((with_reducible refine gate_store (t := 3) (p := 99) rfl ?_); refine store_event (t := 3) (p := 99) (v := ?vo_w40) (w1 := (w38.setCell ⟨go34, (x13_4 : Int).toNat * 3 + 1, none⟩ (.int .i64 (wrap64 (((rd_T37 y308 x13_4).f1) + ((rd_T37 t294 0).f1)))))) ?hg ?ho ?hn ?hr ?_; (case ho => rfl); (case hg => rfl); (case hn => rfl); (case hr => first | (go_simp; done) | (go_simp; rfl)); intro w40 hw; have hg : w38.grownBy w40 (some go34) := (by rw [hw]; exact HP39.2); have hp_ : Kd.S k37 37 w40 w.heap.size (fun k_ => some k_ ≠ (.slice (some ad298) t294.length co20 : Value).ownBlock) (.slice (some ⟨go34, 0, none⟩) x11_4.length co36) y310 := (by rw [hw, Ny310.out]; exact HP39.1); clear HP39; have n0_ := Aside0.mk (Kd.S_after (v := (.slice (some ⟨go34, 0, none⟩) x11_4.length co36)) (v1 := (.slice (some ⟨go34, 0, none⟩) x11_4.length co36)) (ok := (fun _ => True)) (by (with_reducible repeat (first | apply Kd.S_alloc | apply Kd.S_drewN | apply Kd.S_drew)); exact HO_8.out) hg (.inl rfl)); have n1_ := Aside0.mk (hp_); have n2_ := Aside0.mk (Kd.R_after (v := (.slice (some ⟨go34, 0, none⟩) x11_4.length co36)) (v1 := (.slice (some ⟨go34, 0, none⟩) x11_4.length co36)) (ok := (fun k_ => some k_ ≠ (.slice (some ad298) t294.length co20 : Value).ownBlock)) (qR HL307_2.out) hg (.inl rfl)); have n3_ := Aside0.mk (Kd.R_after (v := (.slice (some ⟨go34, 0, none⟩) x11_4.length co36)) (v1 := (.slice (some ⟨go34, 0, none⟩) x11_4.length co36)) (ok := (fun k_ => some k_ ≠ (.slice (some ad298) t294.length co20 : Value).ownBlock)) (qR HL309_2.out) hg (.inl rfl)); have n4_ := Aside0.mk ((by rw [hw]; exact below_set (HB.out) GB34.out : Below w.heap.size w w40)); clear HO_8; clear HO_11; clear HL307_2; clear HL309_2; clear HB; have HO_8 := n0_; have HO_11 := n1_; have HL307_2 := n2_; have HL309_2 := n3_; have HB := n4_; clear n0_ n1_ n2_ n3_ n4_; clear hg hw hp_))
                             go_roundg k4
                             case measure => have := HJ8.out; have := HJ18.out; have := HJ25.out; have := HK4.out; omega
                             case rel => exact ⟨(y310), (wrap64 (x13_4 + 1)), (by first | rfl | (simp; done) | (simp [*]; done) | (simp [wrap64]; done)), H', ⟨by have := HJ8.out; have := HJ18.out; have := HJ25.out; have := HK4.out; omega⟩, ⟨by (with_reducible repeat (first | apply Kd.S_alloc | apply Kd.S_drewN | apply Kd.S_drew)); exact Kd.S_mono HO_8.out (fun _ hk => hk.2)⟩, ⟨by (with_reducible repeat (first | apply Kd.S_alloc | apply Kd.S_drewN | apply Kd.S_drew)); exact HO_11.out⟩, ⟨by repeat (first | (with_reducible first | exact HB.out | apply below_alloc | apply pw_below_drewN | apply below_drew1) | exact HB.out)⟩⟩
                           · rw [if_neg c33] at H
                             exact absurd H (by simp)
                         · rw [if_neg c32] at H
                           have c32b0 : decide (x13_4 < (x11_4.length : Int)) = false := decide_eq_false c32
                           clear c32
                           by_cases c41 : t289 = true
                           · subst c41
                             have H1 : (if 1 ≤ (t294.length : Int) then ((partitaref26_Same.f k4 x11_4 (t294.drop 1)).bind fun t315 => (some t315)) else (none)) = some r := by rw [if_pos rfl] at H; exact H
                             clear H
                             have H := H1
                             clear H1
                             by_cases c42 : 1 ≤ (t294.length : Int)
                             · rw [if_pos c42] at H
                               have c42b0 := eq_true c42
                               have c42b1 : decide (1 ≤ (t294.length : Int)) = true := decide_eq_true c42
                               clear c42
                               obtain ⟨y311, hy311⟩ : ∃ y_ : List (S37), y_ = (t294.drop 1) := ⟨_, rfl⟩
                               replace H : ((partitaref26_Same.f k4 x11_4 y311).bind fun t315 => (some t315)) = some r := by first | (rw [hy311]; with_reducible exact H) | (have H2_ := (Option.bind_some _ _).symm.trans H; rw [hy311]; with_reducible exact H2_) | (have H2_ := (Option.bind_some _ _).symm.trans H; with_reducible exact H2_) | with_reducible exact H | (rw [hy311]; exact H) | exact H
                               have Ny311 := Aside0.mk hy311
                               clear hy311
                               replace H := Option.bind_eq_some_iff.mp H
                               obtain ⟨t315, A430, H⟩ := H
                               replace H : (some t315) = some r := H
                               have A43 := Aside0.mk A430
                               clear A430
                               obtain rfl := Option.some.inj H
                               obtain ⟨Ao44, co44, eo44⟩ := Kd.S_slice HO_11.out
                               subst eo44
                               have q45 : (1 : Int) ≤ ((t294.length : Int) : Int) := of_decide_eq_true (by first | (with_reducible assumption) | assumption)
                               obtain ⟨i045, hi045, _, hsz45, _⟩ := info_parts info37
                               have hroom45 : t294.length ≤ co20 := (Kd.S_reads' HO_8.out).2.1
                               have hC45 : Kd.C k37 _ (some ad298) t294.length t294 := (Kd.S_reads' HO_8.out).2.2
                               have hcut45 := cut_from (P := Tryd.prog) 23 37 .i64 Tryd.underlying23 hi045 3 hsz45 (some ad298) t294.length co20 1 (by omega) q45
                               have hr45 := Kd.C_drop (m := (1 : Int).toNat) (c := co20) hC45 (by omega) hroom45
                               obtain ⟨A45, hA45⟩ : ∃ z_, z_ = (if co20 = (1 : Int).toNat then (some ad298) else ((some ad298) : Option Addr).map (·.add ((1 : Int).toNat * 3))) := ⟨_, rfl⟩
                               obtain ⟨c45, hc45⟩ : ∃ z_, z_ = co20 - (1 : Int).toNat := ⟨_, rfl⟩
                               have hy45 : y311.length = t294.length - (1 : Int).toNat := (by rw [Ny311.out, List.length_drop] <;> omega)
                               rw [show (t294).drop (1 : Int).toNat = y311 from Ny311.out.symm] at hr45
                               replace hr45 : Kd.C k37 _ A45 y311.length y311 := (by rw [hA45]; exact hr45)
                               rw [← hy45, ← hA45, ← hc45] at hcut45
                               have HR314 := Aside0.mk hr45
                               have HC314 := Aside0.mk (show y311.length ≤ c45 from by rw [hy45, hc45]; exact Nat.sub_le_sub_right hroom45 _)
                               clear hr45 hC45 hroom45 hi045 hsz45 hc45
                               have KY45 := Aside0.mk hy45
                               have KA45 := Aside0.mk hA45
                               clear hy45 hA45
                               have KL45 := Aside0.mk (show 1 ≤ t294.length from by omega)
                               replace q45 := eq_true q45
                               go_wp2_with (first | (go_at_call 10; (with_reducible refine (Few_cut _ _ _ _ _ _ (by assumption) (by assumption) (by first | exact HC0.out | exact HC1.out)).mono ?_); rintro e w' ⟨rfl, rfl⟩) | (go_at_call 16; (with_reducible refine (partitaref26_Same.calls k4 _ _ x11_4 _ _ y311 t315 _ ?side1 ?side2 ?side3 ?side4 A43.out).mono ?_); (case side1 => repeat (first | exact (Kd.S_reads' HO_11.out).2.2 | (with_reducible refine Kd.C_alloc ?_ _) | (with_reducible refine Kd.C_drewN ?_ _) | (with_reducible refine Kd.C_drew ?_))); (case side2 => exact (Kd.S_reads' HO_11.out).2.1); (case side3 => repeat (first | exact (by repeat (first | (with_reducible exact HR314.out) | (with_reducible refine Kd.C_alloc ?_ _) | (with_reducible refine Kd.C_drewN ?_ _) | (with_reducible refine Kd.C_drew ?_) | exact HR314.out)) | (with_reducible refine Kd.C_alloc ?_ _) | (with_reducible refine Kd.C_drewN ?_ _) | (with_reducible refine Kd.C_drew ?_))); (case side4 => exact HC314.out); rintro e w' ⟨rfl, ⟨nd, rfl⟩⟩))
                               go_ret
                               exact ⟨by first | rfl | (simp [errW_none, errW_some] <;> rfl) | (simp only [← hji5]; first | rfl | (simp [errW_none, errW_some] <;> rfl)) | (simp [*, errW_none, errW_some] <;> rfl), by repeat (first | (with_reducible first | exact HB.out | apply below_alloc | apply pw_below_drewN | apply below_drew1) | exact HB.out)⟩
                             · rw [if_neg c42] at H
                               exact absurd H (by simp)
                           · replace c41 := Bool.eq_false_iff.mpr c41
                             subst c41
                             have H1 : none = some r := by rw [if_neg (show ¬ (false = true) by decide)] at H; exact H
                             cases H1
                 · rw [if_neg c24] at H
                   exact absurd H (by simp)
               · rw [if_neg c23] at H
                 exact absurd H (by simp)
         · rw [if_neg c18] at H
           exact absurd H (by simp)
   · rw [if_neg c7] at H
     exact absurd H (by simp)
 · rw [if_neg c6] at H
   exact absurd H (by simp)

end Go.Proofs.YtbpcilbplgbonaaDoor.Q
