-- Written by a program of this session (myprint.py), function by function.
import Derived.Test.YtneaoicjbiebkaaDoorQ0
import Derived.Test.YtneaoicjbiebkaaDoorQ3
import Derived.Test.YtneaoicjbiebkaaDoorQ4
import Derived.Test.YtneaoicjbiebkaaDoorQ8
import Derived.Test.YtneaoicjbiebkaaDoorFew
namespace Go.Proofs.YtneaoicjbiebkaaDoor.Q
open Go.RowKit Go.Proofs.YtneaoicjbiebkaaDoorW.PrintWords Go.Proofs.YtneaoicjbiebkaaDoorW.PrintLast Go.Proofs.YtneaoicjbiebkaaDoorW.PrintMore
attribute [local go_sem] max2_int min2_int max_two min_two max_three min_three max_four min_four   -- for this text's walks alone
set_option linter.unusedVariables false
set_option linter.unusedSimpArgs false

/-! ### partitalaw25_SystemsWhole: function 5 -/
mutual
def partitalaw25_SystemsWhole.j0 : Nat → List Int → List Int → Int → Bool → List (S38) → Bool → Option (Bool)
 | 0, _, _, _, _, _, _ => none
 | k + 1, x0, x1, x2, x7, x8, x39 => if x39 = true then (if x7 = true then (some ((x8.length : Int) == 0)) else none) else (partitalaw25_SystemsWhole.l0 k x0 x1 x2 x7 x8 ([] : List Int) 0)
def partitalaw25_SystemsWhole.l0 : Nat → List Int → List Int → Int → Bool → List (S38) → List Int → Int → Option (Bool)
 | 0, _, _, _, _, _, _, _ => none
 | k + 1, x0, x1, x2, x7, x8, x10, x11 => if (wrap64 (x11 + 1)) < (x8.length : Int) then (if 0 ≤ x11 then (if x11 < (x8.length : Int) then (if x10.length < 17592186044416 then (partitalaw25_SystemsWhole.l0 k x0 x1 x2 x7 x8 (x10 ++ [(rd_T38 x8 x11).f1]) (wrap64 (x11 + 1))) else (none)) else (none)) else (none)) else ((partitalaw25_laid.f k x0 x1 x2 x10).bind fun bt264 => (if x7 = true then (if bt264.2 = true then ((partitaref25_Same.f k x8 bt264.1).bind fun t268 => (some t268)) else none) else none))
end
def partitalaw25_SystemsWhole.f (k : Nat) (l0 : List Int) (l1 : List Int) (a2 : Int) : Option (Bool) := (partitalaw25_shown.f k).bind fun t247 => (if 0 ≤ (mn (l0.length : Int) 101) then (if (mn (l0.length : Int) 101) ≤ (l0.length : Int) then ((some (l0.take ((mn (l0.length : Int) 101) : Int).toNat : List Int)).bind fun y248 => (if 0 ≤ (mn (l1.length : Int) 101) then (if (mn (l1.length : Int) 101) ≤ (l1.length : Int) then ((some (l1.take ((mn (l1.length : Int) 101) : Int).toNat : List Int)).bind fun y252 => ((systems_Break.f y248 y252 a2).bind fun bt256 => (if bt256.2 = 0 then (if (y248.length : Int) = 0 then (partitalaw25_SystemsWhole.j0 k y248 y252 a2 t247 bt256.1 true) else (partitalaw25_SystemsWhole.j0 k y248 y252 a2 t247 bt256.1 ((y252.length : Int) != (y248.length : Int)))) else (partitalaw25_SystemsWhole.j0 k y248 y252 a2 t247 bt256.1 true)))) else (none)) else (none))) else (none)) else (none))
theorem partitalaw25_SystemsWhole.mono_l : ∀ k, (∀ y0 y1 y2 y3 y4 y5, LeO (partitalaw25_SystemsWhole.j0 k y0 y1 y2 y3 y4 y5) (partitalaw25_SystemsWhole.j0 (k + 1) y0 y1 y2 y3 y4 y5)) ∧ (∀ y0 y1 y2 y3 y4 y5 y6, LeO (partitalaw25_SystemsWhole.l0 k y0 y1 y2 y3 y4 y5 y6) (partitalaw25_SystemsWhole.l0 (k + 1) y0 y1 y2 y3 y4 y5 y6))
 | 0 => ⟨fun _ _ _ _ _ _ r h => by simp [partitalaw25_SystemsWhole.j0] at h, fun _ _ _ _ _ _ _ r h => by simp [partitalaw25_SystemsWhole.l0] at h⟩
 | k + 1 => by
  obtain ⟨ih0, ih1⟩ := partitalaw25_SystemsWhole.mono_l k
  refine ⟨?_, ?_⟩
  · intro y0 y1 y2 y3 y4 y5
    unfold partitalaw25_SystemsWhole.j0
    repeat' first
    | (with_reducible exact ih0 _ _ _ _ _ _)
    | (with_reducible exact ih1 _ _ _ _ _ _ _)
    | (with_reducible exact partitalaw25_laid.mono _ _ _ _ _)
    | (with_reducible exact partitalaw25_shown.mono _)
    | (with_reducible exact partitaref25_Same.mono _ _ _)
    | (with_reducible exact LeO.refl _)
    | (with_reducible exact LeO.none _)
    | (with_reducible refine LeO.ite ?_ ?_)
    | (with_reducible refine LeO.bind ?_ (fun _ => ?_))
    | exact ih0 _ _ _ _ _ _
    | exact ih1 _ _ _ _ _ _ _
    | exact partitalaw25_laid.mono _ _ _ _ _
    | exact partitalaw25_shown.mono _
    | exact partitaref25_Same.mono _ _ _
    | exact LeO.none _
    | refine LeO.ite ?_ ?_
    | refine LeO.bind ?_ (fun _ => ?_)
  · intro y0 y1 y2 y3 y4 y5 y6
    unfold partitalaw25_SystemsWhole.l0
    repeat' first
    | (with_reducible exact ih0 _ _ _ _ _ _)
    | (with_reducible exact ih1 _ _ _ _ _ _ _)
    | (with_reducible exact partitalaw25_laid.mono _ _ _ _ _)
    | (with_reducible exact partitalaw25_shown.mono _)
    | (with_reducible exact partitaref25_Same.mono _ _ _)
    | (with_reducible exact LeO.refl _)
    | (with_reducible exact LeO.none _)
    | (with_reducible refine LeO.ite ?_ ?_)
    | (with_reducible refine LeO.bind ?_ (fun _ => ?_))
    | exact ih0 _ _ _ _ _ _
    | exact ih1 _ _ _ _ _ _ _
    | exact partitalaw25_laid.mono _ _ _ _ _
    | exact partitalaw25_shown.mono _
    | exact partitaref25_Same.mono _ _ _
    | exact LeO.none _
    | refine LeO.ite ?_ ?_
    | refine LeO.bind ?_ (fun _ => ?_)
theorem partitalaw25_SystemsWhole.mono : ∀ a0 a1 a2 k, LeO (partitalaw25_SystemsWhole.f k a0 a1 a2) (partitalaw25_SystemsWhole.f (k + 1) a0 a1 a2) := by
 intro a0 a1 a2 k
 obtain ⟨ih0, ih1⟩ := partitalaw25_SystemsWhole.mono_l k
 unfold partitalaw25_SystemsWhole.f
 repeat' first
  | (with_reducible exact ih0 _ _ _ _ _ _)
  | (with_reducible exact ih1 _ _ _ _ _ _ _)
  | (with_reducible exact partitalaw25_laid.mono _ _ _ _ _)
  | (with_reducible exact partitalaw25_shown.mono _)
  | (with_reducible exact partitaref25_Same.mono _ _ _)
  | (with_reducible exact LeO.refl _)
  | (with_reducible exact LeO.none _)
  | (with_reducible refine LeO.ite ?_ ?_)
  | (with_reducible refine LeO.bind ?_ (fun _ => ?_))
  | exact ih0 _ _ _ _ _ _
  | exact ih1 _ _ _ _ _ _ _
  | exact partitalaw25_laid.mono _ _ _ _ _
  | exact partitalaw25_shown.mono _
  | exact partitaref25_Same.mono _ _ _
  | exact LeO.none _
  | refine LeO.ite ?_ ?_
  | refine LeO.bind ?_ (fun _ => ?_)
set_option maxHeartbeats 8000000 in
set_option maxRecDepth 100000 in
theorem partitalaw25_SystemsWhole.calls (k : Nat) (A0 : Option Addr) (c0 : Nat) (l0 : List Int) (A1 : Option Addr) (c1 : Nat) (l1 : List Int) (a2 : Int) (r : Bool) (w : World) (hr0 : Kd.C (Kd.int .i64) w A0 l0.length l0) (hc0 : l0.length ≤ c0) (hr1 : Kd.C (Kd.int .i64) w A1 l1.length l1) (hc1 : l1.length ≤ c1) (h : partitalaw25_SystemsWhole.f k l0 l1 a2 = some r) (SENTS : Aside0 (SentsE w) := by exact sents_step (by assumption) (by repeat (first | (with_reducible first | exact (by assumption : Aside0 (Below _ _ _)).out | apply below_alloc | apply pw_below_drewN | apply below_drew1)))) :
 Calls Tryd.prog 5 #[.slice A0 l0.length c0, .slice A1 l1.length c1, .int .i64 a2] w fun e w' => e = .returned (.bool r) ∧ Below w.heap.size w w' := by
 have HR0 := Aside0.mk hr0
 have HC0 := Aside0.mk hc0
 clear hr0 hc0
 have HR1 := Aside0.mk hr1
 have HC1 := Aside0.mk hc1
 clear hr1 hc1
 have HB := Aside0.mk (Below.refl w.heap.size w)
 have H : ((partitalaw25_shown.f k).bind fun t247 => (if 0 ≤ (mn (l0.length : Int) 101) then (if (mn (l0.length : Int) 101) ≤ (l0.length : Int) then ((some (l0.take ((mn (l0.length : Int) 101) : Int).toNat : List Int)).bind fun y248 => (if 0 ≤ (mn (l1.length : Int) 101) then (if (mn (l1.length : Int) 101) ≤ (l1.length : Int) then ((some (l1.take ((mn (l1.length : Int) 101) : Int).toNat : List Int)).bind fun y252 => ((systems_Break.f y248 y252 a2).bind fun bt256 => (if bt256.2 = 0 then (if (y248.length : Int) = 0 then (partitalaw25_SystemsWhole.j0 k y248 y252 a2 t247 bt256.1 true) else (partitalaw25_SystemsWhole.j0 k y248 y252 a2 t247 bt256.1 ((y252.length : Int) != (y248.length : Int)))) else (partitalaw25_SystemsWhole.j0 k y248 y252 a2 t247 bt256.1 true)))) else (none)) else (none))) else (none)) else (none))) = some r := h
 clear h
 replace H := Option.bind_eq_some_iff.mp H
 obtain ⟨t247, A40, H⟩ := H
 replace H : (if 0 ≤ (mn (l0.length : Int) 101) then (if (mn (l0.length : Int) 101) ≤ (l0.length : Int) then ((some (l0.take ((mn (l0.length : Int) 101) : Int).toNat : List Int)).bind fun y248 => (if 0 ≤ (mn (l1.length : Int) 101) then (if (mn (l1.length : Int) 101) ≤ (l1.length : Int) then ((some (l1.take ((mn (l1.length : Int) 101) : Int).toNat : List Int)).bind fun y252 => ((systems_Break.f y248 y252 a2).bind fun bt256 => (if bt256.2 = 0 then (if (y248.length : Int) = 0 then (partitalaw25_SystemsWhole.j0 k y248 y252 a2 t247 bt256.1 true) else (partitalaw25_SystemsWhole.j0 k y248 y252 a2 t247 bt256.1 ((y252.length : Int) != (y248.length : Int)))) else (partitalaw25_SystemsWhole.j0 k y248 y252 a2 t247 bt256.1 true)))) else (none)) else (none))) else (none)) else (none)) = some r := H
 have A4 := Aside0.mk A40
 clear A40
 obtain ⟨ji5, hji5⟩ : ∃ j_ : Int, (mn (l0.length : Int) 101) = j_ := ⟨_, rfl⟩
 replace H : (if 0 ≤ (ji5) then (if (ji5) ≤ (l0.length : Int) then ((some (l0.take ((ji5) : Int).toNat : List Int)).bind fun y248 => (if 0 ≤ (mn (l1.length : Int) 101) then (if (mn (l1.length : Int) 101) ≤ (l1.length : Int) then ((some (l1.take ((mn (l1.length : Int) 101) : Int).toNat : List Int)).bind fun y252 => ((systems_Break.f y248 y252 a2).bind fun bt256 => (if bt256.2 = 0 then (if (y248.length : Int) = 0 then (partitalaw25_SystemsWhole.j0 k y248 y252 a2 t247 bt256.1 true) else (partitalaw25_SystemsWhole.j0 k y248 y252 a2 t247 bt256.1 ((y252.length : Int) != (y248.length : Int)))) else (partitalaw25_SystemsWhole.j0 k y248 y252 a2 t247 bt256.1 true)))) else (none)) else (none))) else (none)) else (none)) = some r := by first | (rw [hji5] at H; exact H) | (simp only [hji5] at H ⊢; exact H)
 (try rw [hji5] at A4)
 (try (have hji5h : ji5 ≤ 101 := by (rw [← hji5]; unfold mn; (repeat' split) <;> omega)))
 (try (have hji5g : ji5 ≤ 64 := by omega))
 (try (have hji5l : 0 ≤ ji5 := by (rw [← hji5]; unfold mn; (repeat' split) <;> omega)))
 (try (have hji5m : 0 ≤ ji5 := by omega))
 have hji5_ : (if 101 < (l0.length : Int) then 101 else (l0.length : Int)) = ji5 := hji5
 by_cases c6 : 0 ≤ (ji5)
 · rw [if_pos c6] at H
   have c6b0 := eq_true c6
   have c6b1 : decide (0 ≤ (ji5)) = true := decide_eq_true c6
   clear c6
   by_cases c7 : (ji5) ≤ (l0.length : Int)
   · rw [if_pos c7] at H
     have c7b0 := eq_true c7
     have c7b1 : decide ((ji5) ≤ (l0.length : Int)) = true := decide_eq_true c7
     clear c7
     obtain ⟨y248, hy248⟩ : ∃ y_ : List Int, y_ = (l0.take ((ji5) : Int).toNat) := ⟨_, rfl⟩
     replace H : (if 0 ≤ (mn (l1.length : Int) 101) then (if (mn (l1.length : Int) 101) ≤ (l1.length : Int) then ((some (l1.take ((mn (l1.length : Int) 101) : Int).toNat : List Int)).bind fun y252 => ((systems_Break.f y248 y252 a2).bind fun bt256 => (if bt256.2 = 0 then (if (y248.length : Int) = 0 then (partitalaw25_SystemsWhole.j0 k y248 y252 a2 t247 bt256.1 true) else (partitalaw25_SystemsWhole.j0 k y248 y252 a2 t247 bt256.1 ((y252.length : Int) != (y248.length : Int)))) else (partitalaw25_SystemsWhole.j0 k y248 y252 a2 t247 bt256.1 true)))) else (none)) else (none)) = some r := by first | (rw [hy248]; with_reducible exact H) | (have H2_ := (Option.bind_some _ _).symm.trans H; rw [hy248]; with_reducible exact H2_) | (have H2_ := (Option.bind_some _ _).symm.trans H; with_reducible exact H2_) | with_reducible exact H | (rw [hy248]; exact H) | exact H
     have Ny248 := Aside0.mk hy248
     clear hy248
     obtain ⟨ji8, hji8⟩ : ∃ j_ : Int, (mn (l1.length : Int) 101) = j_ := ⟨_, rfl⟩
     replace H : (if 0 ≤ (ji8) then (if (ji8) ≤ (l1.length : Int) then ((some (l1.take ((ji8) : Int).toNat : List Int)).bind fun y252 => ((systems_Break.f y248 y252 a2).bind fun bt256 => (if bt256.2 = 0 then (if (y248.length : Int) = 0 then (partitalaw25_SystemsWhole.j0 k y248 y252 a2 t247 bt256.1 true) else (partitalaw25_SystemsWhole.j0 k y248 y252 a2 t247 bt256.1 ((y252.length : Int) != (y248.length : Int)))) else (partitalaw25_SystemsWhole.j0 k y248 y252 a2 t247 bt256.1 true)))) else (none)) else (none)) = some r := by first | (rw [hji8] at H; exact H) | (simp only [hji8] at H ⊢; exact H)
     (try rw [hji8] at A4)
     (try (have hji8h : ji8 ≤ 101 := by (rw [← hji8]; unfold mn; (repeat' split) <;> omega)))
     (try (have hji8g : ji8 ≤ 64 := by omega))
     (try (have hji8l : 0 ≤ ji8 := by (rw [← hji8]; unfold mn; (repeat' split) <;> omega)))
     (try (have hji8m : 0 ≤ ji8 := by omega))
     have hji8_ : (if 101 < (l1.length : Int) then 101 else (l1.length : Int)) = ji8 := hji8
     by_cases c9 : 0 ≤ (ji8)
     · rw [if_pos c9] at H
       have c9b0 := eq_true c9
       have c9b1 : decide (0 ≤ (ji8)) = true := decide_eq_true c9
       clear c9
       by_cases c10 : (ji8) ≤ (l1.length : Int)
       · rw [if_pos c10] at H
         have c10b0 := eq_true c10
         have c10b1 : decide ((ji8) ≤ (l1.length : Int)) = true := decide_eq_true c10
         clear c10
         obtain ⟨y252, hy252⟩ : ∃ y_ : List Int, y_ = (l1.take ((ji8) : Int).toNat) := ⟨_, rfl⟩
         replace H : ((systems_Break.f y248 y252 a2).bind fun bt256 => (if bt256.2 = 0 then (if (y248.length : Int) = 0 then (partitalaw25_SystemsWhole.j0 k y248 y252 a2 t247 bt256.1 true) else (partitalaw25_SystemsWhole.j0 k y248 y252 a2 t247 bt256.1 ((y252.length : Int) != (y248.length : Int)))) else (partitalaw25_SystemsWhole.j0 k y248 y252 a2 t247 bt256.1 true))) = some r := by first | (rw [hy252]; with_reducible exact H) | (have H2_ := (Option.bind_some _ _).symm.trans H; rw [hy252]; with_reducible exact H2_) | (have H2_ := (Option.bind_some _ _).symm.trans H; with_reducible exact H2_) | with_reducible exact H | (rw [hy252]; exact H) | exact H
         have Ny252 := Aside0.mk hy252
         clear hy252
         replace H := Option.bind_eq_some_iff.mp H
         obtain ⟨⟨t256, t257⟩, A110, H⟩ := H
         replace H : (if t257 = 0 then (if (y248.length : Int) = 0 then (partitalaw25_SystemsWhole.j0 k y248 y252 a2 t247 t256 true) else (partitalaw25_SystemsWhole.j0 k y248 y252 a2 t247 t256 ((y252.length : Int) != (y248.length : Int)))) else (partitalaw25_SystemsWhole.j0 k y248 y252 a2 t247 t256 true)) = some r := H
         have A11 := Aside0.mk A110
         clear A110
         have HC12 := Aside0.mk H
         clear H
         go_enter Tryd.func5, Tryd.ntmps5
         go_upto_region 5 with (first | (go_at_call 11; (with_reducible refine (Few_cut _ _ _ _ _ _ (by assumption) (by assumption) (by first | exact HC0.out | exact HC1.out)).mono ?_); rintro e w' ⟨rfl, rfl⟩) | ((with_reducible refine gate_callee (f := 10) rfl ?_); refine goesL_ (some 14) rfl rfl Tryd.func10 (by kernel_rfl) rfl #[] rfl (by (try simp only [List.map_toArray, List.map_cons, List.map_nil]); first | done | rfl | (simp only [List.length_drop, List.length_take]; rfl)) ?_; (with_reducible refine (partitalaw25_shown.calls k  t247 _ A4.out).mono ?_); rintro e w13 ⟨rfl, hb⟩; refine ⟨_, rfl, ?_⟩; have n0_ := Aside0.mk (below_step (by repeat (first | (with_reducible first | exact HB.out | apply below_alloc | apply pw_below_drewN | apply below_drew1) | exact HB.out)) hb); clear HB; have HB := n0_; clear n0_; (try clear hb); (try clear hb2); (try clear hk); (try clear hi); have q14 : ((ji5) : Int) ≤ ((l0.length : Int) : Int) := of_decide_eq_true (by first | (with_reducible assumption) | assumption); obtain ⟨i014, hi014, _, hsz14, _⟩ := info_parts info3; have hroom14 : l0.length ≤ c0 := HC0.out; have hC14 : Kd.C (Kd.int .i64) _ A0 l0.length l0 := HR0.out; have hcut14 := cut_to (P := Tryd.prog) 22 3 .i64 Tryd.underlying22 hi014 A0 l0.length c0 (ji5) (of_decide_eq_true (by first | (with_reducible assumption) | assumption)) q14 hroom14; have hr14 := Kd.C_take (m := ((ji5) : Int).toNat) hC14 (by omega); have hy14 : y248.length = ((ji5) : Int).toNat := (by rw [Ny248.out, List.length_take]; omega); rw [← Ny248.out] at hr14; rw [← hy14] at hcut14; have HR251 := Aside0.mk hr14; have HC251 := Aside0.mk (show y248.length ≤ c0 from by omega); clear hr14 hC14 hroom14 hi014 hsz14; have KY14 := Aside0.mk hy14; clear hy14; replace q14 := eq_true q14; have q15 : ((ji8) : Int) ≤ ((l1.length : Int) : Int) := of_decide_eq_true (by first | (with_reducible assumption) | assumption); obtain ⟨i015, hi015, _, hsz15, _⟩ := info_parts info3; have hroom15 : l1.length ≤ c1 := HC1.out; have hC15 : Kd.C (Kd.int .i64) _ A1 l1.length l1 := HR1.out; have hcut15 := cut_to (P := Tryd.prog) 22 3 .i64 Tryd.underlying22 hi015 A1 l1.length c1 (ji8) (of_decide_eq_true (by first | (with_reducible assumption) | assumption)) q15 hroom15; have hr15 := Kd.C_take (m := ((ji8) : Int).toNat) hC15 (by omega); have hy15 : y252.length = ((ji8) : Int).toNat := (by rw [Ny252.out, List.length_take]; omega); rw [← Ny252.out] at hr15; rw [← hy15] at hcut15; have HR255 := Aside0.mk hr15; have HC255 := Aside0.mk (show y252.length ≤ c1 from by omega); clear hr15 hC15 hroom15 hi015 hsz15; have KY15 := Aside0.mk hy15; clear hy15; replace q15 := eq_true q15) | ((with_reducible refine gate_callee (f := 14) rfl ?_); refine goesL_ (some 23) rfl rfl Tryd.func14 (by kernel_rfl) rfl #[.slice A0 y248.length c0, .slice A1 y252.length c1, .int .i64 a2] rfl (by (try simp only [List.map_toArray, List.map_cons, List.map_nil]); first | done | rfl | (simp only [List.length_drop, List.length_take]; rfl)) ?_; (with_reducible refine (systems_Break.calls _ _ y248 _ _ y252 a2 t256 t257 _ ?side1 ?side2 ?side3 ?side4 A11.out).mono ?_); (case side1 => repeat (first | exact (Kd.C_below HR251.out HB.out) | (with_reducible refine Kd.C_alloc ?_ _) | (with_reducible refine Kd.C_drewN ?_ _) | (with_reducible refine Kd.C_drew ?_))); (case side2 => exact HC251.out); (case side3 => repeat (first | exact (Kd.C_below HR255.out HB.out) | (with_reducible refine Kd.C_alloc ?_ _) | (with_reducible refine Kd.C_drewN ?_ _) | (with_reducible refine Kd.C_drew ?_))); (case side4 => exact HC255.out); rintro e w16 ⟨v258, rfl, ho0, hb⟩; refine ⟨_, rfl, ?_⟩; have n0_ := Aside0.mk (Kd.R_lower ho0 (below_size (by repeat (first | (with_reducible first | exact HB.out | apply below_alloc | apply pw_below_drewN | apply below_drew1) | exact HB.out)))); have n1_ := Aside0.mk (below_step (by repeat (first | (with_reducible first | exact HB.out | apply below_alloc | apply pw_below_drewN | apply below_drew1) | exact HB.out)) hb); clear HB; have HO259 := n0_; have HB := n1_; clear n0_ n1_; (try clear hb); (try clear hb2); (try clear hk); (try clear hi); (try clear ho0)))
         (try simp only [Act.put, qa_, qz_, qs_])
         go_cut [39] (fun v39 wc => ∃ (kq : Nat) (x39_11 : Bool), v39 = .bool x39_11 ∧ Aside0 (partitalaw25_SystemsWhole.j0 kq y248 y252 a2 t247 t256 x39_11 = some r) ∧ Aside0 (kq ≤ k) ∧ Aside0 (Kd.R k38 38 wc w.heap.size (fun _ => True) v258 t256) ∧ Aside0 (Below w.heap.size w wc))
         case first =>
          have H := HC12.out
          clear HC12
          by_cases c17 : t257 = 0
          · rw [if_pos c17] at H
            have c17b0 : (t257 == 0) = true := beq_iff_eq.mpr c17
            have c17b1 : (t257 != 0) = false := bne_eq_false_iff_eq.mpr c17
            clear c17
            (first | rw [c17b0] | (simp only [i64_w, i32_w]; rw [c17b0]) | skip)
            by_cases c18 : (y248.length : Int) = 0
            · rw [if_pos c18] at H
              have c18b0 : ((y248.length : Int) == 0) = true := beq_iff_eq.mpr c18
              have c18b1 : ((y248.length : Int) != 0) = false := bne_eq_false_iff_eq.mpr c18
              clear c18
              have H' := Aside0.mk H
              clear H
              go_wp2
              go_meet
              case rel => exact ⟨_, (true), (by first | rfl | (simp; done) | (simp [*]; done) | (simp [wrap64]; done)), H', ⟨by first | omega | exact Nat.le_refl _⟩, ⟨by (with_reducible repeat (first | apply Kd.R_alloc | apply Kd.R_drewN | apply Kd.R_drew)); exact HO259.out⟩, ⟨by repeat (first | (with_reducible first | exact HB.out | apply below_alloc | apply pw_below_drewN | apply below_drew1) | exact HB.out)⟩⟩
            · rw [if_neg c18] at H
              have c18b0 : ((y248.length : Int) == 0) = false := beq_eq_false_iff_ne.mpr c18
              have c18b1 : ((y248.length : Int) != 0) = true := bne_iff_ne.mpr c18
              have c18b2 : ¬ (y248 = []) := fun h_ => c18 (by rw [h_]; rfl)
              have H' := Aside0.mk H
              clear H
              go_wp2
              go_meet
              case rel => exact ⟨_, (((y252.length : Int) != (y248.length : Int))), (by first | rfl | (simp; done) | (simp [*]; done) | (simp [wrap64]; done)), H', ⟨by first | omega | exact Nat.le_refl _⟩, ⟨by (with_reducible repeat (first | apply Kd.R_alloc | apply Kd.R_drewN | apply Kd.R_drew)); exact HO259.out⟩, ⟨by repeat (first | (with_reducible first | exact HB.out | apply below_alloc | apply pw_below_drewN | apply below_drew1) | exact HB.out)⟩⟩
          · rw [if_neg c17] at H
            have c17b0 : (t257 == 0) = false := beq_eq_false_iff_ne.mpr c17
            have c17b1 : (t257 != 0) = true := bne_iff_ne.mpr c17
            (first | rw [c17b0] | (simp only [i64_w, i32_w]; rw [c17b0]) | skip)
            have H' := Aside0.mk H
            clear H
            go_wp2
            go_meet
            case rel => exact ⟨_, (true), (by first | rfl | (simp; done) | (simp [*]; done) | (simp [wrap64]; done)), H', ⟨by first | omega | exact Nat.le_refl _⟩, ⟨by (with_reducible repeat (first | apply Kd.R_alloc | apply Kd.R_drewN | apply Kd.R_drew)); exact HO259.out⟩, ⟨by repeat (first | (with_reducible first | exact HB.out | apply below_alloc | apply pw_below_drewN | apply below_drew1) | exact HB.out)⟩⟩
         case rest =>
          clear HC12
          try clear c1
          try clear q1
          try clear p2
          try clear c5
          try clear c6
          try clear c6b0
          try clear c6b1
          try clear c7
          try clear c7b0
          try clear c7b1
          try clear c9
          try clear c9b0
          try clear c9b1
          try clear c10
          try clear c10b0
          try clear c10b1
          try clear c14
          try clear q14
          try clear q15
          try clear c17
          try clear c17b0
          try clear c17b1
          try clear c18
          try clear c18b0
          try clear c18b1
          try clear c18b2
          try clear q14
          try clear q15
          obtain ⟨kq, x39_11, rfl, HA, HJ11, HO_8, HB⟩ := hcut
          cases kq with
          | zero => exact absurd HA.out (by simp [partitalaw25_SystemsWhole.j0])
          | succ kj11 =>
           have H := HA.out
           clear HA
           simp only [partitalaw25_SystemsWhole.j0] at H
           by_cases c19 : x39_11 = true
           · subst c19
             have H1 : (if t247 = true then (some ((t256.length : Int) == 0)) else none) = some r := by rw [if_pos rfl] at H; exact H
             clear H
             have H := H1
             clear H1
             by_cases c20 : t247 = true
             · subst c20
               have H1 : (some ((t256.length : Int) == 0)) = some r := by rw [if_pos rfl] at H; exact H
               clear H
               have H := H1
               clear H1
               obtain rfl := Option.some.inj H
               obtain ⟨Ao21, co21, eo21⟩ := Kd.R_slice HO_8.out
               subst eo21
               go_wp2
               go_ret
               exact ⟨by first | rfl | (simp [errW_none, errW_some] <;> rfl) | (simp only [← hji5, ← hji8]; first | rfl | (simp [errW_none, errW_some] <;> rfl)) | (simp [*, errW_none, errW_some] <;> rfl), by repeat (first | (with_reducible first | exact HB.out | apply below_alloc | apply pw_below_drewN | apply below_drew1) | exact HB.out)⟩
             · replace c20 := Bool.eq_false_iff.mpr c20
               subst c20
               have H1 : none = some r := by rw [if_neg (show ¬ (false = true) by decide)] at H; exact H
               cases H1
           · replace c19 := Bool.eq_false_iff.mpr c19
             subst c19
             have H1 : (partitalaw25_SystemsWhole.l0 kj11 y248 y252 a2 t247 t256 ([] : List Int) 0) = some r := by rw [if_neg (show ¬ (false = true) by decide)] at H; exact H
             clear H
             have H := H1
             clear H1
             have H' := Aside0.mk H
             clear H
             go_wp2
             go_loopg [10, 11] kj11 (fun kq v10 v11 w' => ∃ (x10_2 : List Int) (x11_2 : Int), v11 = .int .i64 x11_2 ∧ Aside0 (partitalaw25_SystemsWhole.l0 kq y248 y252 a2 t247 t256 x10_2 x11_2 = some r) ∧ Aside0 (kq ≤ kj11) ∧ Aside0 (Kd.R k38 38 w' w.heap.size (fun _ => True) v258 t256) ∧ Aside0 (Kd.R (Kd.int .i64) 3 w' w.heap.size (fun _ => True) v10 x10_2) ∧ Aside0 (Below w.heap.size w w'))
             case atStart => exact ⟨(([] : List Int)), (0), (by first | rfl | (simp; done) | (simp [*]; done) | (simp [wrap64]; done)), H', ⟨Nat.le_refl _⟩, ⟨by (with_reducible repeat (first | apply Kd.R_alloc | apply Kd.R_drewN | apply Kd.R_drew)); exact HO_8.out⟩, ⟨by first | exact Kd.R_nil _ _ _ _ _ | exact Kd.N_nil _ _ _ _ _ | exact Kd.V_nil _ _ _ _ _ | exact Kd.Q_nil _ _ _ _ _ | exact Kd.S_nil _ _ _ _ _⟩, ⟨by repeat (first | (with_reducible first | exact HB.out | apply below_alloc | apply pw_below_drewN | apply below_drew1) | exact HB.out)⟩⟩
             case round =>
              clear H'
              try clear c1
              try clear q1
              try clear c2
              try clear p2
              try clear c5
              try clear c6
              try clear c6b0
              try clear c6b1
              try clear c7
              try clear c7b0
              try clear c7b1
              try clear c9
              try clear c9b0
              try clear c9b1
              try clear c10
              try clear c10b0
              try clear c10b1
              try clear c14
              try clear q14
              try clear q15
              try clear c17
              try clear c17b0
              try clear c17b1
              try clear c18
              try clear c18b0
              try clear c18b1
              try clear c18b2
              try clear c19
              try clear c20
              try clear p2
              try clear q1
              try clear q14
              try clear q15
              obtain ⟨x10_2, x11_2, rfl, HA, HK2, HO_8, HO_10, HB⟩ := hrel
              cases gk with
              | zero => exact absurd HA.out (by simp [partitalaw25_SystemsWhole.l0])
              | succ k2 =>
               have H := HA.out
               clear HA
               simp only [partitalaw25_SystemsWhole.l0] at H
               by_cases c22 : (wrap64 (x11_2 + 1)) < (t256.length : Int)
               · rw [if_pos c22] at H
                 have c22b0 : decide ((wrap64 (x11_2 + 1)) < (t256.length : Int)) = true := decide_eq_true c22
                 clear c22
                 by_cases c23 : 0 ≤ x11_2
                 · rw [if_pos c23] at H
                   have c23b0 : decide (0 ≤ x11_2) = true := decide_eq_true c23
                   clear c23
                   by_cases c24 : x11_2 < (t256.length : Int)
                   · rw [if_pos c24] at H
                     have c24b0 : decide (x11_2 < (t256.length : Int)) = true := decide_eq_true c24
                     clear c24
                     by_cases c25 : x10_2.length < 17592186044416
                     · rw [if_pos c25] at H
                       have LMc25 := Aside0.mk c25
                       clear c25
                       obtain ⟨y261, hy261⟩ : ∃ y_ : List Int, y_ = (x10_2 ++ [(rd_T38 t256 x11_2).f1]) := ⟨_, rfl⟩
                       replace H : (partitalaw25_SystemsWhole.l0 k2 y248 y252 a2 t247 t256 y261 (wrap64 (x11_2 + 1))) = some r := by first | (rw [hy261]; with_reducible exact H) | (have H2_ := (Option.bind_some _ _).symm.trans H; rw [hy261]; with_reducible exact H2_) | (have H2_ := (Option.bind_some _ _).symm.trans H; with_reducible exact H2_) | with_reducible exact H | (rw [hy261]; exact H) | exact H
                       have Ny261 := Aside0.mk hy261
                       clear hy261
                       have H' := Aside0.mk H
                       clear H
                       obtain ⟨Ao26, co26, eo26⟩ := Kd.R_slice HO_8.out
                       subst eo26
                       have p260 : 0 ≤ (x11_2 : Int) := of_decide_eq_true (by first | (with_reducible assumption) | assumption)
                       have q260 : x11_2 < (t256.length : Int) := of_decide_eq_true (by first | (with_reducible assumption) | assumption)
                       obtain ⟨ad260, e260, hx260_0, hx260_1, hx260_2⟩ := at_T38 (Kd.R_reads' HO_8.out).2.2 x11_2 p260 q260
                       cases e260
                       replace p260 := eq_true p260
                       replace q260 := eq_true q260
                       go_wp2_with (first | (go_at_call 11; (with_reducible refine (Few_cut _ _ _ _ _ _ (by assumption) (by assumption) (by first | exact HC0.out | exact HC1.out)).mono ?_); rintro e w' ⟨rfl, rfl⟩) | ((with_reducible refine gate_builtin (b := .append) (xs := #[.tmp 53, .tmp 59]) rfl ?_); (try (refine gate_guard (by rfl) ?_; dsimp only)); at_builtin; refine Kd.R_append (Kd.int .i64) (w0 := w) w.heap.size rfl (.tmp 53) (.tmp 59) 22 3 (.int .i64 0) 8 rfl Tryd.underlying22 info3 rfl (by decide) (by omega) u10 x10_2 ((rd_T38 t256 x11_2).f1) [.int .i64 ((rd_T38 t256 x11_2).f1)] (fun _ => True) (fun _ => False) rfl rfl ?aP (fun _ hk => hk.elim) ?aF ?aO ?aB ?aS ?aL ?_; (case aP => exact rfl); (case aB => exact (by repeat (first | (with_reducible first | exact HB.out | apply below_alloc | apply pw_below_drewN | apply below_drew1) | exact HB.out))); (case aF => exact (fun _ _ => trivial)); (case aO => exact (qR HO_10.out)); (case aS => exact (below_size (by repeat (first | (with_reducible first | exact HB.out | apply below_alloc | apply pw_below_drewN | apply below_drew1) | exact HB.out)))); (case aL => have := LMc25.out; omega); intro v262 w27 ho hb hg hat; rw [← Ny261.out] at ho; have n0_ := Aside0.mk (Kd.R_over' (qR HO_8.out) (Kd.R_typed (qR HO_10.out)) (by decide) hg); have n1_ := Aside0.mk (hb); have n2_ := Aside0.mk (ho); clear HO_8; clear HB; clear HO_10; have HO_8 := n0_; have HB := n1_; have HO263 := n2_; clear n0_ n1_ n2_; clear ho hb hg hat))
                       go_roundg k2
                       case measure => have := HJ11.out; have := HK2.out; omega
                       case rel => exact ⟨(y261), (wrap64 (x11_2 + 1)), (by first | rfl | (simp; done) | (simp [*]; done) | (simp [wrap64]; done)), H', ⟨by have := HJ11.out; have := HK2.out; omega⟩, ⟨by (with_reducible repeat (first | apply Kd.R_alloc | apply Kd.R_drewN | apply Kd.R_drew)); exact HO_8.out⟩, ⟨by (with_reducible repeat (first | apply Kd.R_alloc | apply Kd.R_drewN | apply Kd.R_drew)); exact HO263.out⟩, ⟨by repeat (first | (with_reducible first | exact HB.out | apply below_alloc | apply pw_below_drewN | apply below_drew1) | exact HB.out)⟩⟩
                     · rw [if_neg c25] at H
                       exact absurd H (by simp)
                   · rw [if_neg c24] at H
                     exact absurd H (by simp)
                 · rw [if_neg c23] at H
                   exact absurd H (by simp)
               · rw [if_neg c22] at H
                 have c22b0 : decide ((wrap64 (x11_2 + 1)) < (t256.length : Int)) = false := decide_eq_false c22
                 clear c22
                 replace H := Option.bind_eq_some_iff.mp H
                 obtain ⟨⟨t264, t265⟩, A280, H⟩ := H
                 replace H : (if t247 = true then (if t265 = true then ((partitaref25_Same.f k2 t256 t264).bind fun t268 => (some t268)) else none) else none) = some r := H
                 have A28 := Aside0.mk A280
                 clear A280
                 by_cases c29 : t247 = true
                 · subst c29
                   have H1 : (if t265 = true then ((partitaref25_Same.f k2 t256 t264).bind fun t268 => (some t268)) else none) = some r := by rw [if_pos rfl] at H; exact H
                   clear H
                   have H := H1
                   clear H1
                   by_cases c30 : t265 = true
                   · subst c30
                     have H1 : ((partitaref25_Same.f k2 t256 t264).bind fun t268 => (some t268)) = some r := by rw [if_pos rfl] at H; exact H
                     clear H
                     have H := H1
                     clear H1
                     replace H := Option.bind_eq_some_iff.mp H
                     obtain ⟨t268, A310, H⟩ := H
                     replace H : (some t268) = some r := H
                     have A31 := Aside0.mk A310
                     clear A310
                     obtain rfl := Option.some.inj H
                     obtain ⟨Ao32, co32, eo32⟩ := Kd.R_slice HO_8.out
                     subst eo32
                     obtain ⟨Ao33, co33, eo33⟩ := Kd.R_slice HO_10.out
                     subst eo33
                     go_wp2_with (first | (go_at_call 11; (with_reducible refine (Few_cut _ _ _ _ _ _ (by assumption) (by assumption) (by first | exact HC0.out | exact HC1.out)).mono ?_); rintro e w' ⟨rfl, rfl⟩) | ((with_reducible refine gate_callee (f := 17) rfl ?_); refine goesL_ (some 66) rfl rfl Tryd.func17 (by kernel_rfl) rfl #[(.slice A0 y248.length c0), (.slice A1 y252.length c1), .int .i64 a2, .slice Ao33 x10_2.length co33] rfl (by (try simp only [List.map_toArray, List.map_cons, List.map_nil]); first | done | rfl | (simp only [List.length_drop, List.length_take]; rfl)) ?_; (with_reducible refine (partitalaw25_laid.calls k2 _ _ y248 _ _ y252 a2 _ _ x10_2 t264 true _ ?side1 ?side2 ?side3 ?side4 ?side5 ?side6 A28.out).mono ?_); (case side1 => repeat (first | exact (Kd.C_below HR251.out HB.out) | (with_reducible refine Kd.C_alloc ?_ _) | (with_reducible refine Kd.C_drewN ?_ _) | (with_reducible refine Kd.C_drew ?_))); (case side2 => exact HC251.out); (case side3 => repeat (first | exact (Kd.C_below HR255.out HB.out) | (with_reducible refine Kd.C_alloc ?_ _) | (with_reducible refine Kd.C_drewN ?_ _) | (with_reducible refine Kd.C_drew ?_))); (case side4 => exact HC255.out); (case side5 => repeat (first | exact (Kd.R_reads' HO_10.out).2.2 | (with_reducible refine Kd.C_alloc ?_ _) | (with_reducible refine Kd.C_drewN ?_ _) | (with_reducible refine Kd.C_drew ?_))); (case side6 => exact (Kd.R_reads' HO_10.out).2.1); rintro e w34 ⟨v266, rfl, ho0, hb⟩; refine ⟨_, rfl, ?_⟩; have n0_ := Aside0.mk (Kd.R_elder' (qR HO_8.out) (Kd.R_base ho0) hb); have n1_ := Aside0.mk (Kd.R_below (qR HO_10.out) hb); have n2_ := Aside0.mk (Kd.R_lower (Kd.R_new' ho0 (Kd.R_lt (qR HO_8.out))) (below_size (by repeat (first | (with_reducible first | exact HB.out | apply below_alloc | apply pw_below_drewN | apply below_drew1) | exact HB.out)))); have n3_ := Aside0.mk (below_step (by repeat (first | (with_reducible first | exact HB.out | apply below_alloc | apply pw_below_drewN | apply below_drew1) | exact HB.out)) hb); clear HO_8; clear HO_10; clear HB; have HO_8 := n0_; have HO_10 := n1_; have HO267 := n2_; have HB := n3_; clear n0_ n1_ n2_ n3_; (try clear hb); (try clear hb2); (try clear hk); (try clear hi); (try clear ho0); obtain ⟨Ao35, co35, eo35⟩ := Kd.R_slice HO267.out; subst eo35) | (go_at_call 16; (with_reducible refine (partitaref25_Same.calls k2 _ _ t256 _ _ t264 t268 _ ?side1 ?side2 ?side3 ?side4 A31.out).mono ?_); (case side1 => repeat (first | exact (Kd.R_reads' HO_8.out).2.2 | (with_reducible refine Kd.C_alloc ?_ _) | (with_reducible refine Kd.C_drewN ?_ _) | (with_reducible refine Kd.C_drew ?_))); (case side2 => exact (Kd.R_reads' HO_8.out).2.1); (case side3 => repeat (first | exact (Kd.R_reads' HO267.out).2.2 | (with_reducible refine Kd.C_alloc ?_ _) | (with_reducible refine Kd.C_drewN ?_ _) | (with_reducible refine Kd.C_drew ?_))); (case side4 => exact (Kd.R_reads' HO267.out).2.1); rintro e w' ⟨rfl, ⟨nd, rfl⟩⟩))
                     go_ret
                     exact ⟨by first | rfl | (simp [errW_none, errW_some] <;> rfl) | (simp only [← hji5, ← hji8]; first | rfl | (simp [errW_none, errW_some] <;> rfl)) | (simp [*, errW_none, errW_some] <;> rfl), by repeat (first | (with_reducible first | exact HB.out | apply below_alloc | apply pw_below_drewN | apply below_drew1) | exact HB.out)⟩
                   · replace c30 := Bool.eq_false_iff.mpr c30
                     subst c30
                     have H1 : none = some r := by rw [if_neg (show ¬ (false = true) by decide)] at H; exact H
                     cases H1
                 · replace c29 := Bool.eq_false_iff.mpr c29
                   subst c29
                   have H1 : none = some r := by rw [if_neg (show ¬ (false = true) by decide)] at H; exact H
                   cases H1
       · rw [if_neg c10] at H
         exact absurd H (by simp)
     · rw [if_neg c9] at H
       exact absurd H (by simp)
   · rw [if_neg c7] at H
     exact absurd H (by simp)
 · rw [if_neg c6] at H
   exact absurd H (by simp)

end Go.Proofs.YtneaoicjbiebkaaDoor.Q
