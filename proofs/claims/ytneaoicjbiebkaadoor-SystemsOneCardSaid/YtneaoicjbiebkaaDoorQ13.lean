-- Written by a program of this session (myprint.py), function by function.
import Derived.Test.YtneaoicjbiebkaaDoorQ0
import Derived.Test.YtneaoicjbiebkaaDoorQ3
import Derived.Test.YtneaoicjbiebkaaDoorQ4
import Derived.Test.YtneaoicjbiebkaaDoorFew
namespace Go.Proofs.YtneaoicjbiebkaaDoor.Q
open Go.RowKit Go.Proofs.YtneaoicjbiebkaaDoorW.PrintWords Go.Proofs.YtneaoicjbiebkaaDoorW.PrintLast Go.Proofs.YtneaoicjbiebkaaDoorW.PrintMore
attribute [local go_sem] max2_int min2_int max_two min_two max_three min_three max_four min_four   -- for this text's walks alone
set_option linter.unusedVariables false
set_option linter.unusedSimpArgs false

/-! ### partitalaw25_SystemsOne: function 8 -/
mutual
def partitalaw25_SystemsOne.j0 : Nat → List Int → Int → Bool → List (S38) → Bool → Option (Bool)
 | 0, _, _, _, _, _ => none
 | k + 1, x0, x2, x7, x8, x31 => if x31 = true then (if x7 = true then (some ((x8.length : Int) == 0)) else none) else (partitalaw25_SystemsOne.l0 k x0 x2 x7 x8 0 true 0)
def partitalaw25_SystemsOne.l0 : Nat → List Int → Int → Bool → List (S38) → Int → Bool → Int → Option (Bool)
 | 0, _, _, _, _, _, _, _ => none
 | k + 1, x0, x2, x7, x8, x10, x11, x12 => if x12 < (x0.length : Int) then (if 0 ≤ x12 then (if x11 = true then (partitalaw25_SystemsOne.l0 k x0 x2 x7 x8 (wrap64 (x10 + (rd x0 x12))) ((rd x0 x12) == x2) (wrap64 (x12 + 1))) else (partitalaw25_SystemsOne.l0 k x0 x2 x7 x8 (wrap64 (x10 + (rd x0 x12))) false (wrap64 (x12 + 1)))) else (none)) else (if x11 = true then (if (x8.length : Int) = (x0.length : Int) then (if x7 = true then (if x10 > x2 then (some true) else ((partitaref25_Same.f k x8 (([(⟨0, (x0.length : Int), 0⟩ : S38)] : List (S38)))).bind fun t346 => (some t346))) else none) else none) else (if x7 = true then (if x10 > x2 then (some true) else ((partitaref25_Same.f k x8 (([(⟨0, (x0.length : Int), 0⟩ : S38)] : List (S38)))).bind fun t350 => (some t350))) else none))
end
def partitalaw25_SystemsOne.f (k : Nat) (l0 : List Int) (l1 : List Int) (a2 : Int) : Option (Bool) := (partitalaw25_shown.f k).bind fun t328 => (if 0 ≤ (mn (l0.length : Int) 101) then (if (mn (l0.length : Int) 101) ≤ (l0.length : Int) then ((some (l0.take ((mn (l0.length : Int) 101) : Int).toNat : List Int)).bind fun y329 => (if 0 ≤ (mn (l1.length : Int) 101) then (if (mn (l1.length : Int) 101) ≤ (l1.length : Int) then ((systems_Break.f y329 (l1.take ((mn (l1.length : Int) 101) : Int).toNat) a2).bind fun bt337 => (if bt337.2 = 0 then (partitalaw25_SystemsOne.j0 k y329 a2 t328 bt337.1 ((y329.length : Int) == 0)) else (partitalaw25_SystemsOne.j0 k y329 a2 t328 bt337.1 true))) else (none)) else (none))) else (none)) else (none))
theorem partitalaw25_SystemsOne.mono_l : ∀ k, (∀ y0 y1 y2 y3 y4, LeO (partitalaw25_SystemsOne.j0 k y0 y1 y2 y3 y4) (partitalaw25_SystemsOne.j0 (k + 1) y0 y1 y2 y3 y4)) ∧ (∀ y0 y1 y2 y3 y4 y5 y6, LeO (partitalaw25_SystemsOne.l0 k y0 y1 y2 y3 y4 y5 y6) (partitalaw25_SystemsOne.l0 (k + 1) y0 y1 y2 y3 y4 y5 y6))
 | 0 => ⟨fun _ _ _ _ _ r h => by simp [partitalaw25_SystemsOne.j0] at h, fun _ _ _ _ _ _ _ r h => by simp [partitalaw25_SystemsOne.l0] at h⟩
 | k + 1 => by
  obtain ⟨ih0, ih1⟩ := partitalaw25_SystemsOne.mono_l k
  refine ⟨?_, ?_⟩
  · intro y0 y1 y2 y3 y4
    unfold partitalaw25_SystemsOne.j0
    repeat' first
    | (with_reducible exact ih0 _ _ _ _ _)
    | (with_reducible exact ih1 _ _ _ _ _ _ _)
    | (with_reducible exact partitalaw25_shown.mono _)
    | (with_reducible exact partitaref25_Same.mono _ _ _)
    | (with_reducible exact LeO.refl _)
    | (with_reducible exact LeO.none _)
    | (with_reducible refine LeO.ite ?_ ?_)
    | (with_reducible refine LeO.bind ?_ (fun _ => ?_))
    | exact ih0 _ _ _ _ _
    | exact ih1 _ _ _ _ _ _ _
    | exact partitalaw25_shown.mono _
    | exact partitaref25_Same.mono _ _ _
    | exact LeO.none _
    | refine LeO.ite ?_ ?_
    | refine LeO.bind ?_ (fun _ => ?_)
  · intro y0 y1 y2 y3 y4 y5 y6
    unfold partitalaw25_SystemsOne.l0
    repeat' first
    | (with_reducible exact ih0 _ _ _ _ _)
    | (with_reducible exact ih1 _ _ _ _ _ _ _)
    | (with_reducible exact partitalaw25_shown.mono _)
    | (with_reducible exact partitaref25_Same.mono _ _ _)
    | (with_reducible exact LeO.refl _)
    | (with_reducible exact LeO.none _)
    | (with_reducible refine LeO.ite ?_ ?_)
    | (with_reducible refine LeO.bind ?_ (fun _ => ?_))
    | exact ih0 _ _ _ _ _
    | exact ih1 _ _ _ _ _ _ _
    | exact partitalaw25_shown.mono _
    | exact partitaref25_Same.mono _ _ _
    | exact LeO.none _
    | refine LeO.ite ?_ ?_
    | refine LeO.bind ?_ (fun _ => ?_)
theorem partitalaw25_SystemsOne.mono : ∀ a0 a1 a2 k, LeO (partitalaw25_SystemsOne.f k a0 a1 a2) (partitalaw25_SystemsOne.f (k + 1) a0 a1 a2) := by
 intro a0 a1 a2 k
 obtain ⟨ih0, ih1⟩ := partitalaw25_SystemsOne.mono_l k
 unfold partitalaw25_SystemsOne.f
 repeat' first
  | (with_reducible exact ih0 _ _ _ _ _)
  | (with_reducible exact ih1 _ _ _ _ _ _ _)
  | (with_reducible exact partitalaw25_shown.mono _)
  | (with_reducible exact partitaref25_Same.mono _ _ _)
  | (with_reducible exact LeO.refl _)
  | (with_reducible exact LeO.none _)
  | (with_reducible refine LeO.ite ?_ ?_)
  | (with_reducible refine LeO.bind ?_ (fun _ => ?_))
  | exact ih0 _ _ _ _ _
  | exact ih1 _ _ _ _ _ _ _
  | exact partitalaw25_shown.mono _
  | exact partitaref25_Same.mono _ _ _
  | exact LeO.none _
  | refine LeO.ite ?_ ?_
  | refine LeO.bind ?_ (fun _ => ?_)
set_option maxHeartbeats 8000000 in
set_option maxRecDepth 100000 in
theorem partitalaw25_SystemsOne.calls (k : Nat) (A0 : Option Addr) (c0 : Nat) (l0 : List Int) (A1 : Option Addr) (c1 : Nat) (l1 : List Int) (a2 : Int) (r : Bool) (w : World) (hr0 : Kd.C (Kd.int .i64) w A0 l0.length l0) (hc0 : l0.length ≤ c0) (hr1 : Kd.C (Kd.int .i64) w A1 l1.length l1) (hc1 : l1.length ≤ c1) (h : partitalaw25_SystemsOne.f k l0 l1 a2 = some r) (SENTS : Aside0 (SentsE w) := by exact sents_step (by assumption) (by repeat (first | (with_reducible first | exact (by assumption : Aside0 (Below _ _ _)).out | apply below_alloc | apply pw_below_drewN | apply below_drew1)))) :
 Calls Tryd.prog 8 #[.slice A0 l0.length c0, .slice A1 l1.length c1, .int .i64 a2] w fun e w' => e = .returned (.bool r) ∧ Below w.heap.size w w' := by
 have hu38 := Tryd.underlying38
 have HR0 := Aside0.mk hr0
 have HC0 := Aside0.mk hc0
 clear hr0 hc0
 have HR1 := Aside0.mk hr1
 have HC1 := Aside0.mk hc1
 clear hr1 hc1
 have HB := Aside0.mk (Below.refl w.heap.size w)
 have H : ((partitalaw25_shown.f k).bind fun t328 => (if 0 ≤ (mn (l0.length : Int) 101) then (if (mn (l0.length : Int) 101) ≤ (l0.length : Int) then ((some (l0.take ((mn (l0.length : Int) 101) : Int).toNat : List Int)).bind fun y329 => (if 0 ≤ (mn (l1.length : Int) 101) then (if (mn (l1.length : Int) 101) ≤ (l1.length : Int) then ((systems_Break.f y329 (l1.take ((mn (l1.length : Int) 101) : Int).toNat) a2).bind fun bt337 => (if bt337.2 = 0 then (partitalaw25_SystemsOne.j0 k y329 a2 t328 bt337.1 ((y329.length : Int) == 0)) else (partitalaw25_SystemsOne.j0 k y329 a2 t328 bt337.1 true))) else (none)) else (none))) else (none)) else (none))) = some r := h
 clear h
 replace H := Option.bind_eq_some_iff.mp H
 obtain ⟨t328, A40, H⟩ := H
 replace H : (if 0 ≤ (mn (l0.length : Int) 101) then (if (mn (l0.length : Int) 101) ≤ (l0.length : Int) then ((some (l0.take ((mn (l0.length : Int) 101) : Int).toNat : List Int)).bind fun y329 => (if 0 ≤ (mn (l1.length : Int) 101) then (if (mn (l1.length : Int) 101) ≤ (l1.length : Int) then ((systems_Break.f y329 (l1.take ((mn (l1.length : Int) 101) : Int).toNat) a2).bind fun bt337 => (if bt337.2 = 0 then (partitalaw25_SystemsOne.j0 k y329 a2 t328 bt337.1 ((y329.length : Int) == 0)) else (partitalaw25_SystemsOne.j0 k y329 a2 t328 bt337.1 true))) else (none)) else (none))) else (none)) else (none)) = some r := H
 have A4 := Aside0.mk A40
 clear A40
 obtain ⟨ji5, hji5⟩ : ∃ j_ : Int, (mn (l0.length : Int) 101) = j_ := ⟨_, rfl⟩
 replace H : (if 0 ≤ (ji5) then (if (ji5) ≤ (l0.length : Int) then ((some (l0.take ((ji5) : Int).toNat : List Int)).bind fun y329 => (if 0 ≤ (mn (l1.length : Int) 101) then (if (mn (l1.length : Int) 101) ≤ (l1.length : Int) then ((systems_Break.f y329 (l1.take ((mn (l1.length : Int) 101) : Int).toNat) a2).bind fun bt337 => (if bt337.2 = 0 then (partitalaw25_SystemsOne.j0 k y329 a2 t328 bt337.1 ((y329.length : Int) == 0)) else (partitalaw25_SystemsOne.j0 k y329 a2 t328 bt337.1 true))) else (none)) else (none))) else (none)) else (none)) = some r := by first | (rw [hji5] at H; exact H) | (simp only [hji5] at H ⊢; exact H)
 (try rw [hji5] at A4)
 (try (have hji5h : ji5 ≤ 101 := by (rw [← hji5]; unfold mn; (repeat' split) <;> omega)))
 (try (have hji5g : ji5 ≤ 64 := by omega))
 (try (have hji5l : 0 ≤ ji5 := by (rw [← hji5]; unfold mn; (repeat' split) <;> omega)))
 (try (have hji5m : 0 ≤ ji5 := by omega))
 have hji5_ : (if 101 < (l0.length : Int) then 101 else (l0.length : Int)) = ji5 := hji5
 by_cases c6 : 0 ≤ (ji5)
 · rw [if_pos c6] at H
   have c6b0 := eq_true c6
   have c6b1 : decide (0 ≤ (ji5)) = true := decide_eq_true c6
   clear c6
   by_cases c7 : (ji5) ≤ (l0.length : Int)
   · rw [if_pos c7] at H
     have c7b0 := eq_true c7
     have c7b1 : decide ((ji5) ≤ (l0.length : Int)) = true := decide_eq_true c7
     clear c7
     obtain ⟨y329, hy329⟩ : ∃ y_ : List Int, y_ = (l0.take ((ji5) : Int).toNat) := ⟨_, rfl⟩
     replace H : (if 0 ≤ (mn (l1.length : Int) 101) then (if (mn (l1.length : Int) 101) ≤ (l1.length : Int) then ((systems_Break.f y329 (l1.take ((mn (l1.length : Int) 101) : Int).toNat) a2).bind fun bt337 => (if bt337.2 = 0 then (partitalaw25_SystemsOne.j0 k y329 a2 t328 bt337.1 ((y329.length : Int) == 0)) else (partitalaw25_SystemsOne.j0 k y329 a2 t328 bt337.1 true))) else (none)) else (none)) = some r := by first | (rw [hy329]; with_reducible exact H) | (have H2_ := (Option.bind_some _ _).symm.trans H; rw [hy329]; with_reducible exact H2_) | (have H2_ := (Option.bind_some _ _).symm.trans H; with_reducible exact H2_) | with_reducible exact H | (rw [hy329]; exact H) | exact H
     have Ny329 := Aside0.mk hy329
     clear hy329
     obtain ⟨ji8, hji8⟩ : ∃ j_ : Int, (mn (l1.length : Int) 101) = j_ := ⟨_, rfl⟩
     replace H : (if 0 ≤ (ji8) then (if (ji8) ≤ (l1.length : Int) then ((systems_Break.f y329 (l1.take ((ji8) : Int).toNat) a2).bind fun bt337 => (if bt337.2 = 0 then (partitalaw25_SystemsOne.j0 k y329 a2 t328 bt337.1 ((y329.length : Int) == 0)) else (partitalaw25_SystemsOne.j0 k y329 a2 t328 bt337.1 true))) else (none)) else (none)) = some r := by first | (rw [hji8] at H; exact H) | (simp only [hji8] at H ⊢; exact H)
     (try rw [hji8] at A4)
     (try (have hji8h : ji8 ≤ 101 := by (rw [← hji8]; unfold mn; (repeat' split) <;> omega)))
     (try (have hji8g : ji8 ≤ 64 := by omega))
     (try (have hji8l : 0 ≤ ji8 := by (rw [← hji8]; unfold mn; (repeat' split) <;> omega)))
     (try (have hji8m : 0 ≤ ji8 := by omega))
     have hji8_ : (if 101 < (l1.length : Int) then 101 else (l1.length : Int)) = ji8 := hji8
     by_cases c9 : 0 ≤ (ji8)
     · rw [if_pos c9] at H
       have c9b0 := eq_true c9
       have c9b1 : decide (0 ≤ (ji8)) = true := decide_eq_true c9
       clear c9
       by_cases c10 : (ji8) ≤ (l1.length : Int)
       · rw [if_pos c10] at H
         have c10b0 := eq_true c10
         have c10b1 : decide ((ji8) ≤ (l1.length : Int)) = true := decide_eq_true c10
         clear c10
         obtain ⟨y333, hy333⟩ : ∃ y_ : List Int, y_ = (l1.take ((ji8) : Int).toNat) := ⟨_, rfl⟩
         replace H : ((systems_Break.f y329 y333 a2).bind fun bt337 => (if bt337.2 = 0 then (partitalaw25_SystemsOne.j0 k y329 a2 t328 bt337.1 ((y329.length : Int) == 0)) else (partitalaw25_SystemsOne.j0 k y329 a2 t328 bt337.1 true))) = some r := by first | (rw [hy333]; with_reducible exact H) | (have H2_ := (Option.bind_some _ _).symm.trans H; rw [hy333]; with_reducible exact H2_) | (have H2_ := (Option.bind_some _ _).symm.trans H; with_reducible exact H2_) | with_reducible exact H | (rw [hy333]; exact H) | exact H
         have Ny333 := Aside0.mk hy333
         clear hy333
         replace H := Option.bind_eq_some_iff.mp H
         obtain ⟨⟨t337, t338⟩, A110, H⟩ := H
         replace H : (if t338 = 0 then (partitalaw25_SystemsOne.j0 k y329 a2 t328 t337 ((y329.length : Int) == 0)) else (partitalaw25_SystemsOne.j0 k y329 a2 t328 t337 true)) = some r := H
         have A11 := Aside0.mk A110
         clear A110
         have HC12 := Aside0.mk H
         clear H
         go_enter Tryd.func8, Tryd.ntmps8
         go_upto_region 5 with (first | (go_at_call 11; (with_reducible refine (Few_cut _ _ _ _ _ _ (by assumption) (by assumption) (by first | exact HC0.out | exact HC1.out)).mono ?_); rintro e w' ⟨rfl, rfl⟩) | ((with_reducible refine gate_callee (f := 10) rfl ?_); refine goesL_ (some 13) rfl rfl Tryd.func10 (by kernel_rfl) rfl #[] rfl (by (try simp only [List.map_toArray, List.map_cons, List.map_nil]); first | done | rfl | (simp only [List.length_drop, List.length_take]; rfl)) ?_; (with_reducible refine (partitalaw25_shown.calls k  t328 _ A4.out).mono ?_); rintro e w13 ⟨rfl, hb⟩; refine ⟨_, rfl, ?_⟩; have n0_ := Aside0.mk (below_step (by repeat (first | (with_reducible first | exact HB.out | apply below_alloc | apply pw_below_drewN | apply below_drew1) | exact HB.out)) hb); clear HB; have HB := n0_; clear n0_; (try clear hb); (try clear hb2); (try clear hk); (try clear hi); have q14 : ((ji5) : Int) ≤ ((l0.length : Int) : Int) := of_decide_eq_true (by first | (with_reducible assumption) | assumption); obtain ⟨i014, hi014, _, hsz14, _⟩ := info_parts info3; have hroom14 : l0.length ≤ c0 := HC0.out; have hC14 : Kd.C (Kd.int .i64) _ A0 l0.length l0 := HR0.out; have hcut14 := cut_to (P := Tryd.prog) 22 3 .i64 Tryd.underlying22 hi014 A0 l0.length c0 (ji5) (of_decide_eq_true (by first | (with_reducible assumption) | assumption)) q14 hroom14; have hr14 := Kd.C_take (m := ((ji5) : Int).toNat) hC14 (by omega); have hy14 : y329.length = ((ji5) : Int).toNat := (by rw [Ny329.out, List.length_take]; omega); rw [← Ny329.out] at hr14; rw [← hy14] at hcut14; have HR332 := Aside0.mk hr14; have HC332 := Aside0.mk (show y329.length ≤ c0 from by omega); clear hr14 hC14 hroom14 hi014 hsz14; have KY14 := Aside0.mk hy14; clear hy14; replace q14 := eq_true q14; have q15 : ((ji8) : Int) ≤ ((l1.length : Int) : Int) := of_decide_eq_true (by first | (with_reducible assumption) | assumption); obtain ⟨i015, hi015, _, hsz15, _⟩ := info_parts info3; have hroom15 : l1.length ≤ c1 := HC1.out; have hC15 : Kd.C (Kd.int .i64) _ A1 l1.length l1 := HR1.out; have hcut15 := cut_to (P := Tryd.prog) 22 3 .i64 Tryd.underlying22 hi015 A1 l1.length c1 (ji8) (of_decide_eq_true (by first | (with_reducible assumption) | assumption)) q15 hroom15; have hr15 := Kd.C_take (m := ((ji8) : Int).toNat) hC15 (by omega); have hy15 : y333.length = ((ji8) : Int).toNat := (by rw [Ny333.out, List.length_take]; omega); rw [← Ny333.out] at hr15; rw [← hy15] at hcut15; have HR336 := Aside0.mk hr15; have HC336 := Aside0.mk (show y333.length ≤ c1 from by omega); clear hr15 hC15 hroom15 hi015 hsz15; have KY15 := Aside0.mk hy15; clear hy15; replace q15 := eq_true q15) | ((with_reducible refine gate_callee (f := 14) rfl ?_); refine goesL_ (some 22) rfl rfl Tryd.func14 (by kernel_rfl) rfl #[.slice A0 y329.length c0, .slice A1 y333.length c1, .int .i64 a2] rfl (by (try simp only [List.map_toArray, List.map_cons, List.map_nil]); first | done | rfl | (simp only [List.length_drop, List.length_take]; rfl)) ?_; (with_reducible refine (systems_Break.calls _ _ y329 _ _ y333 a2 t337 t338 _ ?side1 ?side2 ?side3 ?side4 A11.out).mono ?_); (case side1 => repeat (first | exact (Kd.C_below HR332.out HB.out) | (with_reducible refine Kd.C_alloc ?_ _) | (with_reducible refine Kd.C_drewN ?_ _) | (with_reducible refine Kd.C_drew ?_))); (case side2 => exact HC332.out); (case side3 => repeat (first | exact (Kd.C_below HR336.out HB.out) | (with_reducible refine Kd.C_alloc ?_ _) | (with_reducible refine Kd.C_drewN ?_ _) | (with_reducible refine Kd.C_drew ?_))); (case side4 => exact HC336.out); rintro e w16 ⟨v339, rfl, ho0, hb⟩; refine ⟨_, rfl, ?_⟩; have n0_ := Aside0.mk (Kd.R_lower ho0 (below_size (by repeat (first | (with_reducible first | exact HB.out | apply below_alloc | apply pw_below_drewN | apply below_drew1) | exact HB.out)))); have n1_ := Aside0.mk (below_step (by repeat (first | (with_reducible first | exact HB.out | apply below_alloc | apply pw_below_drewN | apply below_drew1) | exact HB.out)) hb); clear HB; have HO340 := n0_; have HB := n1_; clear n0_ n1_; (try clear hb); (try clear hb2); (try clear hk); (try clear hi); (try clear ho0)))
         (try simp only [Act.put, qa_, qz_, qs_])
         go_cut [31] (fun v31 wc => ∃ (kq : Nat) (x31_11 : Bool), v31 = .bool x31_11 ∧ Aside0 (partitalaw25_SystemsOne.j0 kq y329 a2 t328 t337 x31_11 = some r) ∧ Aside0 (kq ≤ k) ∧ Aside0 (Kd.R k38 38 wc w.heap.size (fun _ => True) v339 t337) ∧ Aside0 (Below w.heap.size w wc))
         case first =>
          have H := HC12.out
          clear HC12
          by_cases c17 : t338 = 0
          · rw [if_pos c17] at H
            have c17b0 : (t338 == 0) = true := beq_iff_eq.mpr c17
            have c17b1 : (t338 != 0) = false := bne_eq_false_iff_eq.mpr c17
            clear c17
            (first | rw [c17b0] | (simp only [i64_w, i32_w]; rw [c17b0]) | skip)
            have H' := Aside0.mk H
            clear H
            go_wp2
            go_meet
            case rel => exact ⟨_, (((y329.length : Int) == 0)), (by first | rfl | (simp; done) | (simp [*]; done) | (simp [wrap64]; done)), H', ⟨by first | omega | exact Nat.le_refl _⟩, ⟨by (with_reducible repeat (first | apply Kd.R_alloc | apply Kd.R_drewN | apply Kd.R_drew)); exact HO340.out⟩, ⟨by repeat (first | (with_reducible first | exact HB.out | apply below_alloc | apply pw_below_drewN | apply below_drew1) | exact HB.out)⟩⟩
          · rw [if_neg c17] at H
            have c17b0 : (t338 == 0) = false := beq_eq_false_iff_ne.mpr c17
            have c17b1 : (t338 != 0) = true := bne_iff_ne.mpr c17
            (first | rw [c17b0] | (simp only [i64_w, i32_w]; rw [c17b0]) | skip)
            have H' := Aside0.mk H
            clear H
            go_wp2
            go_meet
            case rel => exact ⟨_, (true), (by first | rfl | (simp; done) | (simp [*]; done) | (simp [wrap64]; done)), H', ⟨by first | omega | exact Nat.le_refl _⟩, ⟨by (with_reducible repeat (first | apply Kd.R_alloc | apply Kd.R_drewN | apply Kd.R_drew)); exact HO340.out⟩, ⟨by repeat (first | (with_reducible first | exact HB.out | apply below_alloc | apply pw_below_drewN | apply below_drew1) | exact HB.out)⟩⟩
         case rest =>
          clear HC12
          try clear c1
          try clear q1
          try clear p2
          try clear c6
          try clear c6b0
          try clear c6b1
          try clear c7
          try clear c7b0
          try clear c7b1
          try clear c8
          try clear c9
          try clear c9b0
          try clear c9b1
          try clear c10
          try clear c10b0
          try clear c10b1
          try clear c14
          try clear q14
          try clear q15
          try clear c17
          try clear c17b0
          try clear c17b1
          try clear q14
          try clear q15
          obtain ⟨kq, x31_11, rfl, HA, HJ11, HO_8, HB⟩ := hcut
          cases kq with
          | zero => exact absurd HA.out (by simp [partitalaw25_SystemsOne.j0])
          | succ kj11 =>
           have H := HA.out
           clear HA
           simp only [partitalaw25_SystemsOne.j0] at H
           by_cases c18 : x31_11 = true
           · subst c18
             have H1 : (if t328 = true then (some ((t337.length : Int) == 0)) else none) = some r := by rw [if_pos rfl] at H; exact H
             clear H
             have H := H1
             clear H1
             by_cases c19 : t328 = true
             · subst c19
               have H1 : (some ((t337.length : Int) == 0)) = some r := by rw [if_pos rfl] at H; exact H
               clear H
               have H := H1
               clear H1
               obtain rfl := Option.some.inj H
               obtain ⟨Ao20, co20, eo20⟩ := Kd.R_slice HO_8.out
               subst eo20
               go_wp2
               go_ret
               exact ⟨by first | rfl | (simp [errW_none, errW_some] <;> rfl) | (simp only [← hji5, ← hji8]; first | rfl | (simp [errW_none, errW_some] <;> rfl)) | (simp [*, errW_none, errW_some] <;> rfl), by repeat (first | (with_reducible first | exact HB.out | apply below_alloc | apply pw_below_drewN | apply below_drew1) | exact HB.out)⟩
             · replace c19 := Bool.eq_false_iff.mpr c19
               subst c19
               have H1 : none = some r := by rw [if_neg (show ¬ (false = true) by decide)] at H; exact H
               cases H1
           · replace c18 := Bool.eq_false_iff.mpr c18
             subst c18
             have H1 : (partitalaw25_SystemsOne.l0 kj11 y329 a2 t328 t337 0 true 0) = some r := by rw [if_neg (show ¬ (false = true) by decide)] at H; exact H
             clear H
             have H := H1
             clear H1
             have H' := Aside0.mk H
             clear H
             go_wp2
             go_loopg [10, 11, 12] kj11 (fun kq v10 v11 v12 w' => ∃ (x10_2 : Int) (x11_2 : Bool) (x12_2 : Int), v10 = .int .i64 x10_2 ∧ v11 = .bool x11_2 ∧ v12 = .int .i64 x12_2 ∧ Aside0 (partitalaw25_SystemsOne.l0 kq y329 a2 t328 t337 x10_2 x11_2 x12_2 = some r) ∧ Aside0 (kq ≤ kj11) ∧ Aside0 (Kd.R k38 38 w' w.heap.size (fun _ => True) v339 t337) ∧ Aside0 (Below w.heap.size w w'))
             case atStart => exact ⟨(0), (true), (0), (by first | rfl | (simp; done) | (simp [*]; done) | (simp [wrap64]; done)), (by first | rfl | (simp; done) | (simp [*]; done) | (simp [wrap64]; done)), (by first | rfl | (simp; done) | (simp [*]; done) | (simp [wrap64]; done)), H', ⟨Nat.le_refl _⟩, ⟨by (with_reducible repeat (first | apply Kd.R_alloc | apply Kd.R_drewN | apply Kd.R_drew)); exact HO_8.out⟩, ⟨by repeat (first | (with_reducible first | exact HB.out | apply below_alloc | apply pw_below_drewN | apply below_drew1) | exact HB.out)⟩⟩
             case round =>
              clear H'
              try clear c1
              try clear q1
              try clear p2
              try clear c6
              try clear c6b0
              try clear c6b1
              try clear c7
              try clear c7b0
              try clear c7b1
              try clear c8
              try clear c9
              try clear c9b0
              try clear c9b1
              try clear c10
              try clear c10b0
              try clear c10b1
              try clear c14
              try clear q14
              try clear q15
              try clear c17
              try clear c17b0
              try clear c17b1
              try clear c18
              try clear c19
              try clear p2
              try clear q1
              try clear q14
              try clear q15
              obtain ⟨x10_2, x11_2, x12_2, rfl, rfl, rfl, HA, HK2, HO_8, HB⟩ := hrel
              cases gk with
              | zero => exact absurd HA.out (by simp [partitalaw25_SystemsOne.l0])
              | succ k2 =>
               have H := HA.out
               clear HA
               simp only [partitalaw25_SystemsOne.l0] at H
               by_cases c21 : x12_2 < (y329.length : Int)
               · rw [if_pos c21] at H
                 have c21b0 : decide (x12_2 < (y329.length : Int)) = true := decide_eq_true c21
                 clear c21
                 by_cases c22 : 0 ≤ x12_2
                 · rw [if_pos c22] at H
                   have c22b0 : decide (0 ≤ x12_2) = true := decide_eq_true c22
                   clear c22
                   by_cases c23 : x11_2 = true
                   · subst c23
                     have H1 : (partitalaw25_SystemsOne.l0 k2 y329 a2 t328 t337 (wrap64 (x10_2 + (rd y329 x12_2))) ((rd y329 x12_2) == a2) (wrap64 (x12_2 + 1))) = some r := by rw [if_pos rfl] at H; exact H
                     clear H
                     have H := H1
                     clear H1
                     have H' := Aside0.mk H
                     clear H
                     have p341 : 0 ≤ (x12_2 : Int) := of_decide_eq_true (by first | (with_reducible assumption) | assumption)
                     have q341 : x12_2 < (y329.length : Int) := of_decide_eq_true (by first | (with_reducible assumption) | assumption)
                     obtain ⟨ad341, e341, hx341_0⟩ := Kd.at_int HR332.out x12_2 p341 q341
                     cases e341
                     replace hx341_0 := (HB.out.cell (World.block_lt_of_cell? w _ hx341_0)).trans hx341_0
                     replace p341 := eq_true p341
                     replace q341 := eq_true q341
                     have p342 : 0 ≤ (x12_2 : Int) := of_decide_eq_true (by first | (with_reducible assumption) | assumption)
                     have q342 : x12_2 < (y329.length : Int) := of_decide_eq_true (by first | (with_reducible assumption) | assumption)
                     obtain ⟨ad342, e342, hx342_0⟩ := Kd.at_int HR332.out x12_2 p342 q342
                     obtain rfl : ad341 = ad342 := (by injection e342)
                     replace hx342_0 := (HB.out.cell (World.block_lt_of_cell? w _ hx342_0)).trans hx342_0
                     replace p342 := eq_true p342
                     replace q342 := eq_true q342
                     go_wp2
                     go_roundg k2
                     case measure => have := HJ11.out; have := HK2.out; omega
                     case rel => exact ⟨(wrap64 (x10_2 + (rd y329 x12_2))), (((rd y329 x12_2) == a2)), (wrap64 (x12_2 + 1)), (by first | rfl | (simp; done) | (simp [*]; done) | (simp [wrap64]; done)), (by first | rfl | (simp; done) | (simp [*]; done) | (simp [wrap64]; done)), (by first | rfl | (simp; done) | (simp [*]; done) | (simp [wrap64]; done)), H', ⟨by have := HJ11.out; have := HK2.out; omega⟩, ⟨by (with_reducible repeat (first | apply Kd.R_alloc | apply Kd.R_drewN | apply Kd.R_drew)); exact HO_8.out⟩, ⟨by repeat (first | (with_reducible first | exact HB.out | apply below_alloc | apply pw_below_drewN | apply below_drew1) | exact HB.out)⟩⟩
                   · replace c23 := Bool.eq_false_iff.mpr c23
                     subst c23
                     have H1 : (partitalaw25_SystemsOne.l0 k2 y329 a2 t328 t337 (wrap64 (x10_2 + (rd y329 x12_2))) false (wrap64 (x12_2 + 1))) = some r := by rw [if_neg (show ¬ (false = true) by decide)] at H; exact H
                     clear H
                     have H := H1
                     clear H1
                     have H' := Aside0.mk H
                     clear H
                     have p341 : 0 ≤ (x12_2 : Int) := of_decide_eq_true (by first | (with_reducible assumption) | assumption)
                     have q341 : x12_2 < (y329.length : Int) := of_decide_eq_true (by first | (with_reducible assumption) | assumption)
                     obtain ⟨ad341, e341, hx341_0⟩ := Kd.at_int HR332.out x12_2 p341 q341
                     cases e341
                     replace hx341_0 := (HB.out.cell (World.block_lt_of_cell? w _ hx341_0)).trans hx341_0
                     replace p341 := eq_true p341
                     replace q341 := eq_true q341
                     go_wp2
                     go_roundg k2
                     case measure => have := HJ11.out; have := HK2.out; omega
                     case rel => exact ⟨(wrap64 (x10_2 + (rd y329 x12_2))), (false), (wrap64 (x12_2 + 1)), (by first | rfl | (simp; done) | (simp [*]; done) | (simp [wrap64]; done)), (by first | rfl | (simp; done) | (simp [*]; done) | (simp [wrap64]; done)), (by first | rfl | (simp; done) | (simp [*]; done) | (simp [wrap64]; done)), H', ⟨by have := HJ11.out; have := HK2.out; omega⟩, ⟨by (with_reducible repeat (first | apply Kd.R_alloc | apply Kd.R_drewN | apply Kd.R_drew)); exact HO_8.out⟩, ⟨by repeat (first | (with_reducible first | exact HB.out | apply below_alloc | apply pw_below_drewN | apply below_drew1) | exact HB.out)⟩⟩
                 · rw [if_neg c22] at H
                   exact absurd H (by simp)
               · rw [if_neg c21] at H
                 have c21b0 : decide (x12_2 < (y329.length : Int)) = false := decide_eq_false c21
                 clear c21
                 by_cases c24 : x11_2 = true
                 · subst c24
                   have H1 : (if (t337.length : Int) = (y329.length : Int) then (if t328 = true then (if x10_2 > a2 then (some true) else ((partitaref25_Same.f k2 t337 (([(⟨0, (y329.length : Int), 0⟩ : S38)] : List (S38)))).bind fun t346 => (some t346))) else none) else none) = some r := by rw [if_pos rfl] at H; exact H
                   clear H
                   have H := H1
                   clear H1
                   by_cases c25 : (t337.length : Int) = (y329.length : Int)
                   · rw [if_pos c25] at H
                     have c25b0 : ((t337.length : Int) == (y329.length : Int)) = true := beq_iff_eq.mpr c25
                     have c25b1 : ((t337.length : Int) != (y329.length : Int)) = false := bne_eq_false_iff_eq.mpr c25
                     have c25b2 : (t337.length == y329.length) = true := by first | simpa using c25 | (simp at c25 ⊢; omega)
                     clear c25
                     by_cases c26 : t328 = true
                     · subst c26
                       have H1 : (if x10_2 > a2 then (some true) else ((partitaref25_Same.f k2 t337 (([(⟨0, (y329.length : Int), 0⟩ : S38)] : List (S38)))).bind fun t346 => (some t346))) = some r := by rw [if_pos rfl] at H; exact H
                       clear H
                       have H := H1
                       clear H1
                       by_cases c27 : x10_2 > a2
                       · rw [if_pos c27] at H
                         have c27b0 : decide (a2 < x10_2) = true := decide_eq_true c27
                         clear c27
                         obtain rfl := Option.some.inj H
                         obtain ⟨Ao28, co28, eo28⟩ := Kd.R_slice HO_8.out
                         subst eo28
                         go_wp2
                         go_ret
                         exact ⟨by first | rfl | (simp [errW_none, errW_some] <;> rfl) | (simp only [← hji5, ← hji8]; first | rfl | (simp [errW_none, errW_some] <;> rfl)) | (simp [*, errW_none, errW_some] <;> rfl), by repeat (first | (with_reducible first | exact HB.out | apply below_alloc | apply pw_below_drewN | apply below_drew1) | exact HB.out)⟩
                       · rw [if_neg c27] at H
                         have c27b0 : decide (a2 < x10_2) = false := decide_eq_false c27
                         clear c27
                         obtain ⟨y343, hy343⟩ : ∃ y_ : List (S38), y_ = (([(⟨0, (y329.length : Int), 0⟩ : S38)] : List (S38))) := ⟨_, rfl⟩
                         replace H : ((partitaref25_Same.f k2 t337 y343).bind fun t346 => (some t346)) = some r := by first | (rw [hy343]; with_reducible exact H) | (have H2_ := (Option.bind_some _ _).symm.trans H; rw [hy343]; with_reducible exact H2_) | (have H2_ := (Option.bind_some _ _).symm.trans H; with_reducible exact H2_) | with_reducible exact H | (rw [hy343]; exact H) | exact H
                         have Ny343 := Aside0.mk hy343
                         clear hy343
                         replace H := Option.bind_eq_some_iff.mp H
                         obtain ⟨t346, A290, H⟩ := H
                         replace H : (some t346) = some r := H
                         have A29 := Aside0.mk A290
                         clear A290
                         obtain rfl := Option.some.inj H
                         obtain ⟨Ao30, co30, eo30⟩ := Kd.R_slice HO_8.out
                         subst eo30
                         go_wp2_with (first | (go_at_call 11; (with_reducible refine (Few_cut _ _ _ _ _ _ (by assumption) (by assumption) (by first | exact HC0.out | exact HC1.out)).mono ?_); rintro e w' ⟨rfl, rfl⟩) | ((with_reducible refine gate_dst (N := 77) rfl ?_); (try (refine gate_guard (by rfl) ?_; dsimp only)); refine Kd.R_lit k38 _ 38 ?hg (N := 77) ?hd (xs := ([(⟨0, (y329.length : Int), 0⟩ : S38)] : List (S38))) (inner := [.int .i64 0, .int .i64 (y329.length : Int), .int .i64 0]) (ok := fun _ => True) (okp := fun _ => True) ?hr ?hp (fun _ hk => hk) trivial (Below.refl _ _) (Nat.le_refl _) (by simp) ?_; (case hd => rfl); (case hg => rfl); (case hr => first | (go_simp; done) | (go_simp; rfl)); (case hp => exact (Reps.c3 (show Kd.M k38 _ _ _ (⟨0, (y329.length : Int), 0⟩ : S38) [.int .i64 0, .int .i64 (y329.length : Int), .int .i64 0] from (k38_mkM _ _ _ (⟨0, (y329.length : Int), 0⟩ : S38) )) (Reps.none _ _))); intro v344 w31 ho32 hb hg_ hnew_; clear hg_ hnew_; (first | rw [← Ny343.out] at ho32 | (simp only [Int.reduceToNat] at ho32; rw [← Ny343.out] at ho32)); have n0_ := Aside0.mk (Kd.R_elder' (qR HO_8.out) (Kd.R_base ho32) hb); have n1_ := Aside0.mk (Kd.R_lower (Kd.R_new' ho32 (Kd.R_lt (qR HO_8.out))) (below_size (by repeat (first | (with_reducible first | exact HB.out | apply below_alloc | apply pw_below_drewN | apply below_drew1) | exact HB.out)))); have n2_ := Aside0.mk (below_step (by repeat (first | (with_reducible first | exact HB.out | apply below_alloc | apply pw_below_drewN | apply below_drew1) | exact HB.out)) hb); clear HO_8; clear HB; have HO_8 := n0_; have HO345 := n1_; have HB := n2_; clear n0_ n1_ n2_; clear hb ho32; obtain ⟨Ao33, co33, eo33⟩ := Kd.R_slice HO345.out; subst eo33) | (go_at_call 16; (with_reducible refine (partitaref25_Same.calls k2 _ _ t337 _ _ y343 t346 _ ?side1 ?side2 ?side3 ?side4 A29.out).mono ?_); (case side1 => repeat (first | exact (Kd.R_reads' HO_8.out).2.2 | (with_reducible refine Kd.C_alloc ?_ _) | (with_reducible refine Kd.C_drewN ?_ _) | (with_reducible refine Kd.C_drew ?_))); (case side2 => exact (Kd.R_reads' HO_8.out).2.1); (case side3 => repeat (first | exact (Kd.R_reads' HO345.out).2.2 | (with_reducible refine Kd.C_alloc ?_ _) | (with_reducible refine Kd.C_drewN ?_ _) | (with_reducible refine Kd.C_drew ?_))); (case side4 => exact (Kd.R_reads' HO345.out).2.1); rintro e w' ⟨rfl, ⟨nd, rfl⟩⟩))
                         go_ret
                         exact ⟨by first | rfl | (simp [errW_none, errW_some] <;> rfl) | (simp only [← hji5, ← hji8]; first | rfl | (simp [errW_none, errW_some] <;> rfl)) | (simp [*, errW_none, errW_some] <;> rfl), by repeat (first | (with_reducible first | exact HB.out | apply below_alloc | apply pw_below_drewN | apply below_drew1) | exact HB.out)⟩
                     · replace c26 := Bool.eq_false_iff.mpr c26
                       subst c26
                       have H1 : none = some r := by rw [if_neg (show ¬ (false = true) by decide)] at H; exact H
                       cases H1
                   · rw [if_neg c25] at H
                     cases H
                 · replace c24 := Bool.eq_false_iff.mpr c24
                   subst c24
                   have H1 : (if t328 = true then (if x10_2 > a2 then (some true) else ((partitaref25_Same.f k2 t337 (([(⟨0, (y329.length : Int), 0⟩ : S38)] : List (S38)))).bind fun t350 => (some t350))) else none) = some r := by rw [if_neg (show ¬ (false = true) by decide)] at H; exact H
                   clear H
                   have H := H1
                   clear H1
                   by_cases c36 : t328 = true
                   · subst c36
                     have H1 : (if x10_2 > a2 then (some true) else ((partitaref25_Same.f k2 t337 (([(⟨0, (y329.length : Int), 0⟩ : S38)] : List (S38)))).bind fun t350 => (some t350))) = some r := by rw [if_pos rfl] at H; exact H
                     clear H
                     have H := H1
                     clear H1
                     by_cases c37 : x10_2 > a2
                     · rw [if_pos c37] at H
                       have c37b0 : decide (a2 < x10_2) = true := decide_eq_true c37
                       clear c37
                       obtain rfl := Option.some.inj H
                       go_wp2
                       go_ret
                       exact ⟨by first | rfl | (simp [errW_none, errW_some] <;> rfl) | (simp only [← hji5, ← hji8]; first | rfl | (simp [errW_none, errW_some] <;> rfl)) | (simp [*, errW_none, errW_some] <;> rfl), by repeat (first | (with_reducible first | exact HB.out | apply below_alloc | apply pw_below_drewN | apply below_drew1) | exact HB.out)⟩
                     · rw [if_neg c37] at H
                       have c37b0 : decide (a2 < x10_2) = false := decide_eq_false c37
                       clear c37
                       obtain ⟨y347, hy347⟩ : ∃ y_ : List (S38), y_ = (([(⟨0, (y329.length : Int), 0⟩ : S38)] : List (S38))) := ⟨_, rfl⟩
                       replace H : ((partitaref25_Same.f k2 t337 y347).bind fun t350 => (some t350)) = some r := by first | (rw [hy347]; with_reducible exact H) | (have H2_ := (Option.bind_some _ _).symm.trans H; rw [hy347]; with_reducible exact H2_) | (have H2_ := (Option.bind_some _ _).symm.trans H; with_reducible exact H2_) | with_reducible exact H | (rw [hy347]; exact H) | exact H
                       have Ny347 := Aside0.mk hy347
                       clear hy347
                       replace H := Option.bind_eq_some_iff.mp H
                       obtain ⟨t350, A380, H⟩ := H
                       replace H : (some t350) = some r := H
                       have A38 := Aside0.mk A380
                       clear A380
                       obtain rfl := Option.some.inj H
                       go_wp2_with (first | (go_at_call 11; (with_reducible refine (Few_cut _ _ _ _ _ _ (by assumption) (by assumption) (by first | exact HC0.out | exact HC1.out)).mono ?_); rintro e w' ⟨rfl, rfl⟩) | ((with_reducible refine gate_dst (N := 77) rfl ?_); (try (refine gate_guard (by rfl) ?_; dsimp only)); refine Kd.R_lit k38 _ 38 ?hg (N := 77) ?hd (xs := ([(⟨0, (y329.length : Int), 0⟩ : S38)] : List (S38))) (inner := [.int .i64 0, .int .i64 (y329.length : Int), .int .i64 0]) (ok := fun _ => True) (okp := fun _ => True) ?hr ?hp (fun _ hk => hk) trivial (Below.refl _ _) (Nat.le_refl _) (by simp) ?_; (case hd => rfl); (case hg => rfl); (case hr => first | (go_simp; done) | (go_simp; rfl)); (case hp => exact (Reps.c3 (show Kd.M k38 _ _ _ (⟨0, (y329.length : Int), 0⟩ : S38) [.int .i64 0, .int .i64 (y329.length : Int), .int .i64 0] from (k38_mkM _ _ _ (⟨0, (y329.length : Int), 0⟩ : S38) )) (Reps.none _ _))); intro v348 w39 ho40 hb hg_ hnew_; clear hg_ hnew_; (first | rw [← Ny347.out] at ho40 | (simp only [Int.reduceToNat] at ho40; rw [← Ny347.out] at ho40)); have n0_ := Aside0.mk (Kd.R_elder' (qR HO_8.out) (Kd.R_base ho40) hb); have n1_ := Aside0.mk (Kd.R_lower (Kd.R_new' ho40 (Kd.R_lt (qR HO_8.out))) (below_size (by repeat (first | (with_reducible first | exact HB.out | apply below_alloc | apply pw_below_drewN | apply below_drew1) | exact HB.out)))); have n2_ := Aside0.mk (below_step (by repeat (first | (with_reducible first | exact HB.out | apply below_alloc | apply pw_below_drewN | apply below_drew1) | exact HB.out)) hb); clear HO_8; clear HB; have HO_8 := n0_; have HO349 := n1_; have HB := n2_; clear n0_ n1_ n2_; clear hb ho40; obtain ⟨Ao41, co41, eo41⟩ := Kd.R_slice HO_8.out; subst eo41; obtain ⟨Ao42, co42, eo42⟩ := Kd.R_slice HO349.out; subst eo42) | (go_at_call 16; (with_reducible refine (partitaref25_Same.calls k2 _ _ t337 _ _ y347 t350 _ ?side1 ?side2 ?side3 ?side4 A38.out).mono ?_); (case side1 => repeat (first | exact (Kd.R_reads' HO_8.out).2.2 | (with_reducible refine Kd.C_alloc ?_ _) | (with_reducible refine Kd.C_drewN ?_ _) | (with_reducible refine Kd.C_drew ?_))); (case side2 => exact (Kd.R_reads' HO_8.out).2.1); (case side3 => repeat (first | exact (Kd.R_reads' HO349.out).2.2 | (with_reducible refine Kd.C_alloc ?_ _) | (with_reducible refine Kd.C_drewN ?_ _) | (with_reducible refine Kd.C_drew ?_))); (case side4 => exact (Kd.R_reads' HO349.out).2.1); rintro e w' ⟨rfl, ⟨nd, rfl⟩⟩))
                       go_ret
                       exact ⟨by first | rfl | (simp [errW_none, errW_some] <;> rfl) | (simp only [← hji5, ← hji8]; first | rfl | (simp [errW_none, errW_some] <;> rfl)) | (simp [*, errW_none, errW_some] <;> rfl), by repeat (first | (with_reducible first | exact HB.out | apply below_alloc | apply pw_below_drewN | apply below_drew1) | exact HB.out)⟩
                   · replace c36 := Bool.eq_false_iff.mpr c36
                     subst c36
                     have H1 : none = some r := by rw [if_neg (show ¬ (false = true) by decide)] at H; exact H
                     cases H1
       · rw [if_neg c10] at H
         exact absurd H (by simp)
     · rw [if_neg c9] at H
       exact absurd H (by simp)
   · rw [if_neg c7] at H
     exact absurd H (by simp)
 · rw [if_neg c6] at H
   exact absurd H (by simp)

end Go.Proofs.YtneaoicjbiebkaaDoor.Q
