-- Written by a program of this session (myprint.py), function by function.
import Derived.Test.YtbpcilbplgbonaaDoorQ0
import Derived.Test.YtbpcilbplgbonaaDoorQ2
import Derived.Test.YtbpcilbplgbonaaDoorQ6
import Derived.Test.YtbpcilbplgbonaaDoorFew
import Derived.Test.YtbpcilbplgbonaaDoorWAt
import Derived.Test.YtbpcilbplgbonaaDoorWN
import Derived.Test.YtbpcilbplgbonaaDoorWNEv
namespace Go.Proofs.YtbpcilbplgbonaaDoor.Q
open Go.RowKit Go.Proofs.YtbpcilbplgbonaaDoorW.PrintWords Go.Proofs.YtbpcilbplgbonaaDoorW.PrintLast Go.Proofs.YtbpcilbplgbonaaDoorW.PrintMore
attribute [local go_sem] max2_int min2_int max_two min_two max_three min_three max_four min_four   -- for this text's walks alone
set_option linter.unusedVariables false
set_option linter.unusedSimpArgs false

/-! ### partitalaw26_PagesScaled: function 8 -/
mutual
def partitalaw26_PagesScaled.j0 : Nat → List Int → Int → Int → Int → Bool → List (S37) → Bool → Option (Bool)
 | 0, _, _, _, _, _, _, _ => none
 | k + 1, x0, x1, x2, x3, x9, x10, x43 => if x43 = true then (if x9 = true then (some (decide ((x10.length : Int) ≤ (x0.length : Int)))) else none) else (partitalaw26_PagesScaled.l0 k x0 x1 x2 x3 x9 x10 ([] : List Int) 0)
def partitalaw26_PagesScaled.l0 : Nat → List Int → Int → Int → Int → Bool → List (S37) → List Int → Int → Option (Bool)
 | 0, _, _, _, _, _, _, _, _ => none
 | k + 1, x0, x1, x2, x3, x9, x10, x12, x13 => if x13 < (x0.length : Int) then (if 0 ≤ x13 then (if x12.length < 17592186044416 then (partitalaw26_PagesScaled.l0 k x0 x1 x2 x3 x9 x10 (x12 ++ [wrap64 (x3 * (rd x0 x13))]) (wrap64 (x13 + 1))) else (none)) else (none)) else ((pages_Break.f x12 (wrap64 (x3 * x1)) (wrap64 (x3 * x2))).bind fun bt346 => (if bt346.2 = 0 then (partitalaw26_PagesScaled.j2 k x9 x10 bt346.1 ((bt346.1.length : Int) != (x10.length : Int))) else (partitalaw26_PagesScaled.j2 k x9 x10 bt346.1 true)))
def partitalaw26_PagesScaled.j2 : Nat → Bool → List (S37) → List (S37) → Bool → Option (Bool)
 | 0, _, _, _, _ => none
 | k + 1, x9, x10, x14, x86 => if x86 = true then none else (partitalaw26_PagesScaled.l1 k x9 x10 x14 0)
def partitalaw26_PagesScaled.l1 : Nat → Bool → List (S37) → List (S37) → Int → Option (Bool)
 | 0, _, _, _, _ => none
 | k + 1, x9, x10, x14, x16 => if x16 < (x10.length : Int) then (if 0 ≤ x16 then (if x16 < (x14.length : Int) then (if ((rd_T37 x14 x16).f0) = ((rd_T37 x10 x16).f0) then (if ((rd_T37 x14 x16).f1) = ((rd_T37 x10 x16).f1) then (partitalaw26_PagesScaled.l1 k x9 x10 x14 (wrap64 (x16 + 1))) else none) else none) else (none)) else (none)) else (some x9)
end
def partitalaw26_PagesScaled.f (k : Nat) (l0 : List Int) (a1 : Int) (a2 : Int) (a3 : Int) : Option (Bool) := (partitalaw26_shown.f k).bind fun t333 => (if 0 ≤ (mn (l0.length : Int) 101) then (if (mn (l0.length : Int) 101) ≤ (l0.length : Int) then ((some (l0.take ((mn (l0.length : Int) 101) : Int).toNat : List Int)).bind fun y334 => ((pages_Break.f y334 a1 a2).bind fun bt338 => (if bt338.2 = 0 then (if (mn (mx a3 1) 9) = 0 then (none) else (if a1 > ((100000 : Int) / (mn (mx a3 1) 9)) then (partitalaw26_PagesScaled.j0 k y334 a1 a2 (mn (mx a3 1) 9) t333 bt338.1 true) else (partitalaw26_PagesScaled.j0 k y334 a1 a2 (mn (mx a3 1) 9) t333 bt338.1 (decide (a2 > ((100000 : Int) / (mn (mx a3 1) 9))))))) else (partitalaw26_PagesScaled.j0 k y334 a1 a2 (mn (mx a3 1) 9) t333 bt338.1 true)))) else (none)) else (none))
theorem partitalaw26_PagesScaled.mono_l : ∀ k, (∀ y0 y1 y2 y3 y4 y5 y6, LeO (partitalaw26_PagesScaled.j0 k y0 y1 y2 y3 y4 y5 y6) (partitalaw26_PagesScaled.j0 (k + 1) y0 y1 y2 y3 y4 y5 y6)) ∧ (∀ y0 y1 y2 y3 y4 y5 y6 y7, LeO (partitalaw26_PagesScaled.l0 k y0 y1 y2 y3 y4 y5 y6 y7) (partitalaw26_PagesScaled.l0 (k + 1) y0 y1 y2 y3 y4 y5 y6 y7)) ∧ (∀ y0 y1 y2 y3, LeO (partitalaw26_PagesScaled.j2 k y0 y1 y2 y3) (partitalaw26_PagesScaled.j2 (k + 1) y0 y1 y2 y3)) ∧ (∀ y0 y1 y2 y3, LeO (partitalaw26_PagesScaled.l1 k y0 y1 y2 y3) (partitalaw26_PagesScaled.l1 (k + 1) y0 y1 y2 y3))
 | 0 => ⟨fun _ _ _ _ _ _ _ r h => by simp [partitalaw26_PagesScaled.j0] at h, fun _ _ _ _ _ _ _ _ r h => by simp [partitalaw26_PagesScaled.l0] at h, fun _ _ _ _ r h => by simp [partitalaw26_PagesScaled.j2] at h, fun _ _ _ _ r h => by simp [partitalaw26_PagesScaled.l1] at h⟩
 | k + 1 => by
  obtain ⟨ih0, ih1, ih2, ih3⟩ := partitalaw26_PagesScaled.mono_l k
  refine ⟨?_, ?_, ?_, ?_⟩
  · intro y0 y1 y2 y3 y4 y5 y6
    unfold partitalaw26_PagesScaled.j0
    repeat' first
    | (with_reducible exact ih0 _ _ _ _ _ _ _)
    | (with_reducible exact ih1 _ _ _ _ _ _ _ _)
    | (with_reducible exact ih2 _ _ _ _)
    | (with_reducible exact ih3 _ _ _ _)
    | (with_reducible exact partitalaw26_shown.mono _)
    | (with_reducible exact LeO.refl _)
    | (with_reducible exact LeO.none _)
    | (with_reducible refine LeO.ite ?_ ?_)
    | (with_reducible refine LeO.bind ?_ (fun _ => ?_))
    | exact ih0 _ _ _ _ _ _ _
    | exact ih1 _ _ _ _ _ _ _ _
    | exact ih2 _ _ _ _
    | exact ih3 _ _ _ _
    | exact partitalaw26_shown.mono _
    | exact LeO.none _
    | refine LeO.ite ?_ ?_
    | refine LeO.bind ?_ (fun _ => ?_)
  · intro y0 y1 y2 y3 y4 y5 y6 y7
    unfold partitalaw26_PagesScaled.l0
    repeat' first
    | (with_reducible exact ih0 _ _ _ _ _ _ _)
    | (with_reducible exact ih1 _ _ _ _ _ _ _ _)
    | (with_reducible exact ih2 _ _ _ _)
    | (with_reducible exact ih3 _ _ _ _)
    | (with_reducible exact partitalaw26_shown.mono _)
    | (with_reducible exact LeO.refl _)
    | (with_reducible exact LeO.none _)
    | (with_reducible refine LeO.ite ?_ ?_)
    | (with_reducible refine LeO.bind ?_ (fun _ => ?_))
    | exact ih0 _ _ _ _ _ _ _
    | exact ih1 _ _ _ _ _ _ _ _
    | exact ih2 _ _ _ _
    | exact ih3 _ _ _ _
    | exact partitalaw26_shown.mono _
    | exact LeO.none _
    | refine LeO.ite ?_ ?_
    | refine LeO.bind ?_ (fun _ => ?_)
  · intro y0 y1 y2 y3
    unfold partitalaw26_PagesScaled.j2
    repeat' first
    | (with_reducible exact ih0 _ _ _ _ _ _ _)
    | (with_reducible exact ih1 _ _ _ _ _ _ _ _)
    | (with_reducible exact ih2 _ _ _ _)
    | (with_reducible exact ih3 _ _ _ _)
    | (with_reducible exact partitalaw26_shown.mono _)
    | (with_reducible exact LeO.refl _)
    | (with_reducible exact LeO.none _)
    | (with_reducible refine LeO.ite ?_ ?_)
    | (with_reducible refine LeO.bind ?_ (fun _ => ?_))
    | exact ih0 _ _ _ _ _ _ _
    | exact ih1 _ _ _ _ _ _ _ _
    | exact ih2 _ _ _ _
    | exact ih3 _ _ _ _
    | exact partitalaw26_shown.mono _
    | exact LeO.none _
    | refine LeO.ite ?_ ?_
    | refine LeO.bind ?_ (fun _ => ?_)
  · intro y0 y1 y2 y3
    unfold partitalaw26_PagesScaled.l1
    repeat' first
    | (with_reducible exact ih0 _ _ _ _ _ _ _)
    | (with_reducible exact ih1 _ _ _ _ _ _ _ _)
    | (with_reducible exact ih2 _ _ _ _)
    | (with_reducible exact ih3 _ _ _ _)
    | (with_reducible exact partitalaw26_shown.mono _)
    | (with_reducible exact LeO.refl _)
    | (with_reducible exact LeO.none _)
    | (with_reducible refine LeO.ite ?_ ?_)
    | (with_reducible refine LeO.bind ?_ (fun _ => ?_))
    | exact ih0 _ _ _ _ _ _ _
    | exact ih1 _ _ _ _ _ _ _ _
    | exact ih2 _ _ _ _
    | exact ih3 _ _ _ _
    | exact partitalaw26_shown.mono _
    | exact LeO.none _
    | refine LeO.ite ?_ ?_
    | refine LeO.bind ?_ (fun _ => ?_)
theorem partitalaw26_PagesScaled.mono : ∀ a0 a1 a2 a3 k, LeO (partitalaw26_PagesScaled.f k a0 a1 a2 a3) (partitalaw26_PagesScaled.f (k + 1) a0 a1 a2 a3) := by
 intro a0 a1 a2 a3 k
 obtain ⟨ih0, ih1, ih2, ih3⟩ := partitalaw26_PagesScaled.mono_l k
 unfold partitalaw26_PagesScaled.f
 repeat' first
  | (with_reducible exact ih0 _ _ _ _ _ _ _)
  | (with_reducible exact ih1 _ _ _ _ _ _ _ _)
  | (with_reducible exact ih2 _ _ _ _)
  | (with_reducible exact ih3 _ _ _ _)
  | (with_reducible exact partitalaw26_shown.mono _)
  | (with_reducible exact LeO.refl _)
  | (with_reducible exact LeO.none _)
  | (with_reducible refine LeO.ite ?_ ?_)
  | (with_reducible refine LeO.bind ?_ (fun _ => ?_))
  | exact ih0 _ _ _ _ _ _ _
  | exact ih1 _ _ _ _ _ _ _ _
  | exact ih2 _ _ _ _
  | exact ih3 _ _ _ _
  | exact partitalaw26_shown.mono _
  | exact LeO.none _
  | refine LeO.ite ?_ ?_
  | refine LeO.bind ?_ (fun _ => ?_)
set_option maxHeartbeats 8000000 in
set_option maxRecDepth 100000 in
theorem partitalaw26_PagesScaled.calls (k : Nat) (A0 : Option Addr) (c0 : Nat) (l0 : List Int) (a1 : Int) (a2 : Int) (a3 : Int) (r : Bool) (w : World) (hr0 : Kd.C (Kd.int .i64) w A0 l0.length l0) (hc0 : l0.length ≤ c0) (h : partitalaw26_PagesScaled.f k l0 a1 a2 a3 = some r) (SENTS : Aside0 (SentsE w) := by exact sents_step (by assumption) (by repeat (first | (with_reducible first | exact (by assumption : Aside0 (Below _ _ _)).out | apply below_alloc | apply pw_below_drewN | apply below_drew1)))) :
 Calls Tryd.prog 8 #[.slice A0 l0.length c0, .int .i64 a1, .int .i64 a2, .int .i64 a3] w fun e w' => e = .returned (.bool r) ∧ Below w.heap.size w w' := by
 have HR0 := Aside0.mk hr0
 have HC0 := Aside0.mk hc0
 clear hr0 hc0
 have HB := Aside0.mk (Below.refl w.heap.size w)
 have H : ((partitalaw26_shown.f k).bind fun t333 => (if 0 ≤ (mn (l0.length : Int) 101) then (if (mn (l0.length : Int) 101) ≤ (l0.length : Int) then ((some (l0.take ((mn (l0.length : Int) 101) : Int).toNat : List Int)).bind fun y334 => ((pages_Break.f y334 a1 a2).bind fun bt338 => (if bt338.2 = 0 then (if (mn (mx a3 1) 9) = 0 then (none) else (if a1 > ((100000 : Int) / (mn (mx a3 1) 9)) then (partitalaw26_PagesScaled.j0 k y334 a1 a2 (mn (mx a3 1) 9) t333 bt338.1 true) else (partitalaw26_PagesScaled.j0 k y334 a1 a2 (mn (mx a3 1) 9) t333 bt338.1 (decide (a2 > ((100000 : Int) / (mn (mx a3 1) 9))))))) else (partitalaw26_PagesScaled.j0 k y334 a1 a2 (mn (mx a3 1) 9) t333 bt338.1 true)))) else (none)) else (none))) = some r := h
 clear h
 replace H := Option.bind_eq_some_iff.mp H
 obtain ⟨t333, A50, H⟩ := H
 replace H : (if 0 ≤ (mn (l0.length : Int) 101) then (if (mn (l0.length : Int) 101) ≤ (l0.length : Int) then ((some (l0.take ((mn (l0.length : Int) 101) : Int).toNat : List Int)).bind fun y334 => ((pages_Break.f y334 a1 a2).bind fun bt338 => (if bt338.2 = 0 then (if (mn (mx a3 1) 9) = 0 then (none) else (if a1 > ((100000 : Int) / (mn (mx a3 1) 9)) then (partitalaw26_PagesScaled.j0 k y334 a1 a2 (mn (mx a3 1) 9) t333 bt338.1 true) else (partitalaw26_PagesScaled.j0 k y334 a1 a2 (mn (mx a3 1) 9) t333 bt338.1 (decide (a2 > ((100000 : Int) / (mn (mx a3 1) 9))))))) else (partitalaw26_PagesScaled.j0 k y334 a1 a2 (mn (mx a3 1) 9) t333 bt338.1 true)))) else (none)) else (none)) = some r := H
 have A5 := Aside0.mk A50
 clear A50
 obtain ⟨ji6, hji6⟩ : ∃ j_ : Int, (mn (l0.length : Int) 101) = j_ := ⟨_, rfl⟩
 replace H : (if 0 ≤ (ji6) then (if (ji6) ≤ (l0.length : Int) then ((some (l0.take ((ji6) : Int).toNat : List Int)).bind fun y334 => ((pages_Break.f y334 a1 a2).bind fun bt338 => (if bt338.2 = 0 then (if (mn (mx a3 1) 9) = 0 then (none) else (if a1 > ((100000 : Int) / (mn (mx a3 1) 9)) then (partitalaw26_PagesScaled.j0 k y334 a1 a2 (mn (mx a3 1) 9) t333 bt338.1 true) else (partitalaw26_PagesScaled.j0 k y334 a1 a2 (mn (mx a3 1) 9) t333 bt338.1 (decide (a2 > ((100000 : Int) / (mn (mx a3 1) 9))))))) else (partitalaw26_PagesScaled.j0 k y334 a1 a2 (mn (mx a3 1) 9) t333 bt338.1 true)))) else (none)) else (none)) = some r := by first | (rw [hji6] at H; exact H) | (simp only [hji6] at H ⊢; exact H)
 (try rw [hji6] at A5)
 (try (have hji6h : ji6 ≤ 101 := by (rw [← hji6]; unfold mn; (repeat' split) <;> omega)))
 (try (have hji6g : ji6 ≤ 64 := by omega))
 (try (have hji6l : 0 ≤ ji6 := by (rw [← hji6]; unfold mn; (repeat' split) <;> omega)))
 (try (have hji6m : 0 ≤ ji6 := by omega))
 have hji6_ : (if 101 < (l0.length : Int) then 101 else (l0.length : Int)) = ji6 := hji6
 by_cases c7 : 0 ≤ (ji6)
 · rw [if_pos c7] at H
   have c7b0 := eq_true c7
   have c7b1 : decide (0 ≤ (ji6)) = true := decide_eq_true c7
   clear c7
   by_cases c8 : (ji6) ≤ (l0.length : Int)
   · rw [if_pos c8] at H
     have c8b0 := eq_true c8
     have c8b1 : decide ((ji6) ≤ (l0.length : Int)) = true := decide_eq_true c8
     clear c8
     obtain ⟨y334, hy334⟩ : ∃ y_ : List Int, y_ = (l0.take ((ji6) : Int).toNat) := ⟨_, rfl⟩
     replace H : ((pages_Break.f y334 a1 a2).bind fun bt338 => (if bt338.2 = 0 then (if (mn (mx a3 1) 9) = 0 then (none) else (if a1 > ((100000 : Int) / (mn (mx a3 1) 9)) then (partitalaw26_PagesScaled.j0 k y334 a1 a2 (mn (mx a3 1) 9) t333 bt338.1 true) else (partitalaw26_PagesScaled.j0 k y334 a1 a2 (mn (mx a3 1) 9) t333 bt338.1 (decide (a2 > ((100000 : Int) / (mn (mx a3 1) 9))))))) else (partitalaw26_PagesScaled.j0 k y334 a1 a2 (mn (mx a3 1) 9) t333 bt338.1 true))) = some r := by first | (rw [hy334]; with_reducible exact H) | (have H2_ := (Option.bind_some _ _).symm.trans H; rw [hy334]; with_reducible exact H2_) | (have H2_ := (Option.bind_some _ _).symm.trans H; with_reducible exact H2_) | with_reducible exact H | (rw [hy334]; exact H) | exact H
     have Ny334 := Aside0.mk hy334
     clear hy334
     obtain ⟨ji9, hji9⟩ : ∃ j_ : Int, (mx a3 1) = j_ := ⟨_, rfl⟩
     replace H : ((pages_Break.f y334 a1 a2).bind fun bt338 => (if bt338.2 = 0 then (if (mn (ji9) 9) = 0 then (none) else (if a1 > ((100000 : Int) / (mn (ji9) 9)) then (partitalaw26_PagesScaled.j0 k y334 a1 a2 (mn (ji9) 9) t333 bt338.1 true) else (partitalaw26_PagesScaled.j0 k y334 a1 a2 (mn (ji9) 9) t333 bt338.1 (decide (a2 > ((100000 : Int) / (mn (ji9) 9))))))) else (partitalaw26_PagesScaled.j0 k y334 a1 a2 (mn (ji9) 9) t333 bt338.1 true))) = some r := by first | (rw [hji9] at H; exact H) | (simp only [hji9] at H ⊢; exact H)
     (try rw [hji9] at A5)
     (try (have hji9l : 1 ≤ ji9 := by (rw [← hji9]; unfold mx; (repeat' split) <;> omega)))
     (try (have hji9m : 0 ≤ ji9 := by omega))
     have hji9_ : (if a3 < 1 then 1 else a3) = ji9 := hji9
     obtain ⟨ji10, hji10⟩ : ∃ j_ : Int, (mn (ji9) 9) = j_ := ⟨_, rfl⟩
     replace H : ((pages_Break.f y334 a1 a2).bind fun bt338 => (if bt338.2 = 0 then (if (ji10) = 0 then (none) else (if a1 > ((100000 : Int) / (ji10)) then (partitalaw26_PagesScaled.j0 k y334 a1 a2 ji10 t333 bt338.1 true) else (partitalaw26_PagesScaled.j0 k y334 a1 a2 ji10 t333 bt338.1 (decide (a2 > ((100000 : Int) / (ji10))))))) else (partitalaw26_PagesScaled.j0 k y334 a1 a2 ji10 t333 bt338.1 true))) = some r := by first | (rw [hji10] at H; exact H) | (simp only [hji10] at H ⊢; exact H)
     (try rw [hji10] at A5)
     have hji10_ : (if 9 < (ji9) then 9 else (ji9)) = ji10 := hji10
     replace H := Option.bind_eq_some_iff.mp H
     obtain ⟨⟨t338, t339⟩, A110, H⟩ := H
     replace H : (if t339 = 0 then (if (ji10) = 0 then (none) else (if a1 > ((100000 : Int) / (ji10)) then (partitalaw26_PagesScaled.j0 k y334 a1 a2 ji10 t333 t338 true) else (partitalaw26_PagesScaled.j0 k y334 a1 a2 ji10 t333 t338 (decide (a2 > ((100000 : Int) / (ji10))))))) else (partitalaw26_PagesScaled.j0 k y334 a1 a2 ji10 t333 t338 true)) = some r := H
     have A11 := Aside0.mk A110
     clear A110
     have HC12 := Aside0.mk H
     clear H
     go_enter Tryd.func8, Tryd.ntmps8
     go_upto_region 5 with (first | (go_at_call 10; (with_reducible refine (Few_cut _ _ _ _ _ _ (by assumption) (by assumption) (by first | exact HC0.out | exact HC1.out)).mono ?_); rintro e w' ⟨rfl, rfl⟩) | (go_at_call 9; (with_reducible refine (partitalaw26_shown.calls k  t333 _ A5.out).mono ?_); rintro e w13 ⟨rfl, hb⟩; have n0_ := Aside0.mk (below_step (by repeat (first | (with_reducible first | exact HB.out | apply below_alloc | apply pw_below_drewN | apply below_drew1) | exact HB.out)) hb); clear HB; have HB := n0_; clear n0_; (try clear hb); (try clear hb2); (try clear hk); (try clear hi); have q14 : ((ji6) : Int) ≤ ((l0.length : Int) : Int) := of_decide_eq_true (by first | (with_reducible assumption) | assumption); obtain ⟨i014, hi014, _, hsz14, _⟩ := info_parts info3; have hroom14 : l0.length ≤ c0 := HC0.out; have hC14 : Kd.C (Kd.int .i64) _ A0 l0.length l0 := HR0.out; have hcut14 := cut_to (P := Tryd.prog) 22 3 .i64 Tryd.underlying22 hi014 A0 l0.length c0 (ji6) (of_decide_eq_true (by first | (with_reducible assumption) | assumption)) q14 hroom14; have hr14 := Kd.C_take (m := ((ji6) : Int).toNat) hC14 (by omega); have hy14 : y334.length = ((ji6) : Int).toNat := (by rw [Ny334.out, List.length_take]; omega); rw [← Ny334.out] at hr14; rw [← hy14] at hcut14; have HR337 := Aside0.mk hr14; have HC337 := Aside0.mk (show y334.length ≤ c0 from by omega); clear hr14 hC14 hroom14 hi014 hsz14; have KY14 := Aside0.mk hy14; clear hy14; replace q14 := eq_true q14) | (go_at_call 12; (with_reducible refine (pages_Break.calls _ _ y334 a1 a2 t338 t339 _ ?side1 ?side2 A11.out).mono ?_); (case side1 => repeat (first | exact (Kd.C_below HR337.out HB.out) | (with_reducible refine Kd.C_alloc ?_ _) | (with_reducible refine Kd.C_drewN ?_ _) | (with_reducible refine Kd.C_drew ?_))); (case side2 => exact HC337.out); rintro e w15 ⟨v340, rfl, ho0, hb⟩; have n0_ := Aside0.mk (Kd.S_lower ho0 (below_size (by repeat (first | (with_reducible first | exact HB.out | apply below_alloc | apply pw_below_drewN | apply below_drew1) | exact HB.out)))); have n1_ := Aside0.mk (below_step (by repeat (first | (with_reducible first | exact HB.out | apply below_alloc | apply pw_below_drewN | apply below_drew1) | exact HB.out)) hb); clear HB; have HO341 := n0_; have HB := n1_; clear n0_ n1_; (try clear hb); (try clear hb2); (try clear hk); (try clear hi); (try clear ho0)))
     repeat (go_quiet (first | (go_at_call 9; (with_reducible refine (partitalaw26_shown.calls k  t333 _ A5.out).mono ?_); rintro e w13 ⟨rfl, hb⟩; have n0_ := Aside0.mk (below_step (by repeat (first | (with_reducible first | exact HB.out | apply below_alloc | apply pw_below_drewN | apply below_drew1) | exact HB.out)) hb); clear HB; have HB := n0_; clear n0_; (try clear hb); (try clear hb2); (try clear hk); (try clear hi); have q14 : ((ji6) : Int) ≤ ((l0.length : Int) : Int) := of_decide_eq_true (by first | (with_reducible assumption) | assumption); obtain ⟨i014, hi014, _, hsz14, _⟩ := info_parts info3; have hroom14 : l0.length ≤ c0 := HC0.out; have hC14 : Kd.C (Kd.int .i64) _ A0 l0.length l0 := HR0.out; have hcut14 := cut_to (P := Tryd.prog) 22 3 .i64 Tryd.underlying22 hi014 A0 l0.length c0 (ji6) (of_decide_eq_true (by first | (with_reducible assumption) | assumption)) q14 hroom14; have hr14 := Kd.C_take (m := ((ji6) : Int).toNat) hC14 (by omega); have hy14 : y334.length = ((ji6) : Int).toNat := (by rw [Ny334.out, List.length_take]; omega); rw [← Ny334.out] at hr14; rw [← hy14] at hcut14; have HR337 := Aside0.mk hr14; have HC337 := Aside0.mk (show y334.length ≤ c0 from by omega); clear hr14 hC14 hroom14 hi014 hsz14; have KY14 := Aside0.mk hy14; clear hy14; replace q14 := eq_true q14) | (go_at_call 12; (with_reducible refine (pages_Break.calls _ _ y334 a1 a2 t338 t339 _ ?side1 ?side2 A11.out).mono ?_); (case side1 => repeat (first | exact (Kd.C_below HR337.out HB.out) | (with_reducible refine Kd.C_alloc ?_ _) | (with_reducible refine Kd.C_drewN ?_ _) | (with_reducible refine Kd.C_drew ?_))); (case side2 => exact HC337.out); rintro e w15 ⟨v340, rfl, ho0, hb⟩; have n0_ := Aside0.mk (Kd.S_lower ho0 (below_size (by repeat (first | (with_reducible first | exact HB.out | apply below_alloc | apply pw_below_drewN | apply below_drew1) | exact HB.out)))); have n1_ := Aside0.mk (below_step (by repeat (first | (with_reducible first | exact HB.out | apply below_alloc | apply pw_below_drewN | apply below_drew1) | exact HB.out)) hb); clear HB; have HO341 := n0_; have HB := n1_; clear n0_ n1_; (try clear hb); (try clear hb2); (try clear hk); (try clear hi); (try clear ho0))); go_upto_region 5 with (first | (go_at_call 10; (with_reducible refine (Few_cut _ _ _ _ _ _ (by assumption) (by assumption) (by first | exact HC0.out | exact HC1.out)).mono ?_); rintro e w' ⟨rfl, rfl⟩) | (go_at_call 9; (with_reducible refine (partitalaw26_shown.calls k  t333 _ A5.out).mono ?_); rintro e w13 ⟨rfl, hb⟩; have n0_ := Aside0.mk (below_step (by repeat (first | (with_reducible first | exact HB.out | apply below_alloc | apply pw_below_drewN | apply below_drew1) | exact HB.out)) hb); clear HB; have HB := n0_; clear n0_; (try clear hb); (try clear hb2); (try clear hk); (try clear hi); have q14 : ((ji6) : Int) ≤ ((l0.length : Int) : Int) := of_decide_eq_true (by first | (with_reducible assumption) | assumption); obtain ⟨i014, hi014, _, hsz14, _⟩ := info_parts info3; have hroom14 : l0.length ≤ c0 := HC0.out; have hC14 : Kd.C (Kd.int .i64) _ A0 l0.length l0 := HR0.out; have hcut14 := cut_to (P := Tryd.prog) 22 3 .i64 Tryd.underlying22 hi014 A0 l0.length c0 (ji6) (of_decide_eq_true (by first | (with_reducible assumption) | assumption)) q14 hroom14; have hr14 := Kd.C_take (m := ((ji6) : Int).toNat) hC14 (by omega); have hy14 : y334.length = ((ji6) : Int).toNat := (by rw [Ny334.out, List.length_take]; omega); rw [← Ny334.out] at hr14; rw [← hy14] at hcut14; have HR337 := Aside0.mk hr14; have HC337 := Aside0.mk (show y334.length ≤ c0 from by omega); clear hr14 hC14 hroom14 hi014 hsz14; have KY14 := Aside0.mk hy14; clear hy14; replace q14 := eq_true q14) | (go_at_call 12; (with_reducible refine (pages_Break.calls _ _ y334 a1 a2 t338 t339 _ ?side1 ?side2 A11.out).mono ?_); (case side1 => repeat (first | exact (Kd.C_below HR337.out HB.out) | (with_reducible refine Kd.C_alloc ?_ _) | (with_reducible refine Kd.C_drewN ?_ _) | (with_reducible refine Kd.C_drew ?_))); (case side2 => exact HC337.out); rintro e w15 ⟨v340, rfl, ho0, hb⟩; have n0_ := Aside0.mk (Kd.S_lower ho0 (below_size (by repeat (first | (with_reducible first | exact HB.out | apply below_alloc | apply pw_below_drewN | apply below_drew1) | exact HB.out)))); have n1_ := Aside0.mk (below_step (by repeat (first | (with_reducible first | exact HB.out | apply below_alloc | apply pw_below_drewN | apply below_drew1) | exact HB.out)) hb); clear HB; have HO341 := n0_; have HB := n1_; clear n0_ n1_; (try clear hb); (try clear hb2); (try clear hk); (try clear hi); (try clear ho0))))
     (try simp only [Act.put, qa_, qz_, qs_])
     go_cut [43] (fun v43 wc => ∃ (kq : Nat) (x43_11 : Bool), v43 = .bool x43_11 ∧ Aside0 (partitalaw26_PagesScaled.j0 kq y334 a1 a2 ji10 t333 t338 x43_11 = some r) ∧ Aside0 (kq ≤ k) ∧ Aside0 (Kd.S k37 37 wc w.heap.size (fun _ => True) v340 t338) ∧ Aside0 (Below w.heap.size w wc))
     case first =>
      have H := HC12.out
      clear HC12
      by_cases c16 : t339 = 0
      · rw [if_pos c16] at H
        have c16b0 : (t339 == 0) = true := beq_iff_eq.mpr c16
        have c16b1 : (t339 != 0) = false := bne_eq_false_iff_eq.mpr c16
        clear c16
        (first | rw [c16b0] | (simp only [i64_w, i32_w]; rw [c16b0]) | skip)
        by_cases c17 : (ji10) = 0
        · rw [if_pos c17] at H
          exact absurd H (by simp)
        · rw [if_neg c17] at H
          have c17b0 : ((ji10) == 0) = false := beq_eq_false_iff_ne.mpr c17
          have c17b1 : ((ji10) != 0) = true := bne_iff_ne.mpr c17
          by_cases c18 : a1 > ((100000 : Int) / (ji10))
          · rw [if_pos c18] at H
            have c18b0 : decide (((100000 : Int) / (ji10)) < a1) = true := decide_eq_true c18
            clear c18
            have H' := Aside0.mk H
            clear H
            go_wp2
            repeat (go_quiet (fail); try go_wp2)
            go_meet
            case rel => exact ⟨_, (true), (by first | rfl | (simp; done) | (simp [*]; done) | (simp [wrap64]; done)), H', ⟨by first | omega | exact Nat.le_refl _⟩, ⟨by (with_reducible repeat (first | apply Kd.S_alloc | apply Kd.S_drewN | apply Kd.S_drew)); exact HO341.out⟩, ⟨by repeat (first | (with_reducible first | exact HB.out | apply below_alloc | apply pw_below_drewN | apply below_drew1) | exact HB.out)⟩⟩
          · rw [if_neg c18] at H
            have c18b0 : decide (((100000 : Int) / (ji10)) < a1) = false := decide_eq_false c18
            clear c18
            have H' := Aside0.mk H
            clear H
            go_wp2
            repeat (go_quiet (fail); try go_wp2)
            go_meet
            case rel => exact ⟨_, (decide (a2 > ((100000 : Int) / (ji10)))), (by first | rfl | (simp; done) | (simp only [← hji10] <;> (first | rfl | simp)) | (simp [*]; done)), H', ⟨by first | omega | exact Nat.le_refl _⟩, ⟨by (with_reducible repeat (first | apply Kd.S_alloc | apply Kd.S_drewN | apply Kd.S_drew)); exact HO341.out⟩, ⟨by repeat (first | (with_reducible first | exact HB.out | apply below_alloc | apply pw_below_drewN | apply below_drew1) | exact HB.out)⟩⟩
      · rw [if_neg c16] at H
        have c16b0 : (t339 == 0) = false := beq_eq_false_iff_ne.mpr c16
        have c16b1 : (t339 != 0) = true := bne_iff_ne.mpr c16
        (first | rw [c16b0] | (simp only [i64_w, i32_w]; rw [c16b0]) | skip)
        have H' := Aside0.mk H
        clear H
        go_wp2
        repeat (go_quiet (fail); try go_wp2)
        go_meet
        case rel => exact ⟨_, (true), (by first | rfl | (simp; done) | (simp [*]; done) | (simp [wrap64]; done)), H', ⟨by first | omega | exact Nat.le_refl _⟩, ⟨by (with_reducible repeat (first | apply Kd.S_alloc | apply Kd.S_drewN | apply Kd.S_drew)); exact HO341.out⟩, ⟨by repeat (first | (with_reducible first | exact HB.out | apply below_alloc | apply pw_below_drewN | apply below_drew1) | exact HB.out)⟩⟩
     case rest =>
      clear HC12
      try clear c1
      try clear q1
      try clear p2
      try clear c7
      try clear c7b0
      try clear c7b1
      try clear c8
      try clear c8b0
      try clear c8b1
      try clear q14
      try clear c16
      try clear c16b0
      try clear c16b1
      try clear c17
      try clear c17b0
      try clear c17b1
      try clear c18
      try clear c18b0
      try clear q14
      obtain ⟨kq, x43_11, rfl, HA, HJ11, HO_10, HB⟩ := hcut
      cases kq with
      | zero => exact absurd HA.out (by simp [partitalaw26_PagesScaled.j0])
      | succ kj11 =>
       have H := HA.out
       clear HA
       simp only [partitalaw26_PagesScaled.j0] at H
       by_cases c19 : x43_11 = true
       · subst c19
         have H1 : (if t333 = true then (some (decide ((t338.length : Int) ≤ (y334.length : Int)))) else none) = some r := by rw [if_pos rfl] at H; exact H
         clear H
         have H := H1
         clear H1
         by_cases c20 : t333 = true
         · subst c20
           have H1 : (some (decide ((t338.length : Int) ≤ (y334.length : Int)))) = some r := by rw [if_pos rfl] at H; exact H
           clear H
           have H := H1
           clear H1
           obtain rfl := Option.some.inj H
           obtain ⟨Ao21, co21, eo21⟩ := Kd.S_slice HO_10.out
           subst eo21
           go_wp2
           repeat (go_quiet (fail); try go_wp2)
           go_ret
           exact ⟨by first | rfl | (simp [errW_none, errW_some] <;> rfl) | (simp only [← hji6, ← hji9, ← hji10]; first | rfl | (simp [errW_none, errW_some] <;> rfl)) | (simp [*, errW_none, errW_some] <;> rfl), by repeat (first | (with_reducible first | exact HB.out | apply below_alloc | apply pw_below_drewN | apply below_drew1) | exact HB.out)⟩
         · replace c20 := Bool.eq_false_iff.mpr c20
           subst c20
           have H1 : none = some r := by rw [if_neg (show ¬ (false = true) by decide)] at H; exact H
           cases H1
       · replace c19 := Bool.eq_false_iff.mpr c19
         subst c19
         have H1 : (partitalaw26_PagesScaled.l0 kj11 y334 a1 a2 ji10 t333 t338 ([] : List Int) 0) = some r := by rw [if_neg (show ¬ (false = true) by decide)] at H; exact H
         clear H
         have H := H1
         clear H1
         have H' := Aside0.mk H
         clear H
         go_wp2
         repeat (go_quiet (fail); try go_wp2)
         go_loopg [12, 13] kj11 (fun kq v12 v13 w' => ∃ (x12_2 : List Int) (x13_2 : Int), v13 = .int .i64 x13_2 ∧ Aside0 (partitalaw26_PagesScaled.l0 kq y334 a1 a2 ji10 t333 t338 x12_2 x13_2 = some r) ∧ Aside0 (kq ≤ kj11) ∧ Aside0 (Kd.S k37 37 w' w.heap.size (fun k_ => some k_ ≠ (v12 : Value).ownBlock) v340 t338) ∧ Aside0 (Kd.R (Kd.int .i64) 3 w' w.heap.size (fun _ => True) v12 x12_2) ∧ Aside0 (Below w.heap.size w w'))
         case atStart => exact ⟨(([] : List Int)), (0), (by first | rfl | (simp; done) | (simp [*]; done) | (simp [wrap64]; done)), H', ⟨Nat.le_refl _⟩, ⟨by (with_reducible repeat (first | apply Kd.S_alloc | apply Kd.S_drewN | apply Kd.S_drew)); exact Kd.S_mono HO_10.out (fun _ hk => (by simp [Value.ownBlock]))⟩, ⟨by first | exact Kd.R_nil _ _ _ _ _ | exact Kd.N_nil _ _ _ _ _ | exact Kd.V_nil _ _ _ _ _ | exact Kd.Q_nil _ _ _ _ _ | exact Kd.S_nil _ _ _ _ _⟩, ⟨by repeat (first | (with_reducible first | exact HB.out | apply below_alloc | apply pw_below_drewN | apply below_drew1) | exact HB.out)⟩⟩
         case round =>
          clear H'
          try clear c1
          try clear q1
          try clear c2
          try clear p2
          try clear c7
          try clear c7b0
          try clear c7b1
          try clear c8
          try clear c8b0
          try clear c8b1
          try clear q14
          try clear c16
          try clear c16b0
          try clear c16b1
          try clear c17
          try clear c17b0
          try clear c17b1
          try clear c18
          try clear c18b0
          try clear c19
          try clear c20
          try clear p2
          try clear q1
          try clear q14
          obtain ⟨x12_2, x13_2, rfl, HA, HK2, HO_10, HO_12, HB⟩ := hrel
          cases gk with
          | zero => exact absurd HA.out (by simp [partitalaw26_PagesScaled.l0])
          | succ k2 =>
           have H := HA.out
           clear HA
           simp only [partitalaw26_PagesScaled.l0] at H
           by_cases c22 : x13_2 < (y334.length : Int)
           · rw [if_pos c22] at H
             have c22b0 : decide (x13_2 < (y334.length : Int)) = true := decide_eq_true c22
             clear c22
             by_cases c23 : 0 ≤ x13_2
             · rw [if_pos c23] at H
               have c23b0 : decide (0 ≤ x13_2) = true := decide_eq_true c23
               clear c23
               by_cases c24 : x12_2.length < 17592186044416
               · rw [if_pos c24] at H
                 have LMc24 := Aside0.mk c24
                 clear c24
                 obtain ⟨y343, hy343⟩ : ∃ y_ : List Int, y_ = (x12_2 ++ [wrap64 (ji10 * (rd y334 x13_2))]) := ⟨_, rfl⟩
                 replace H : (partitalaw26_PagesScaled.l0 k2 y334 a1 a2 ji10 t333 t338 y343 (wrap64 (x13_2 + 1))) = some r := by first | (rw [hy343]; with_reducible exact H) | (have H2_ := (Option.bind_some _ _).symm.trans H; rw [hy343]; with_reducible exact H2_) | (have H2_ := (Option.bind_some _ _).symm.trans H; with_reducible exact H2_) | with_reducible exact H | (rw [hy343]; exact H) | exact H
                 have Ny343 := Aside0.mk hy343
                 clear hy343
                 have H' := Aside0.mk H
                 clear H
                 have p342 : 0 ≤ (x13_2 : Int) := of_decide_eq_true (by first | (with_reducible assumption) | assumption)
                 have q342 : x13_2 < (y334.length : Int) := of_decide_eq_true (by first | (with_reducible assumption) | assumption)
                 obtain ⟨ad342, e342, hx342_0⟩ := Kd.at_int HR337.out x13_2 p342 q342
                 cases e342
                 replace hx342_0 := (HB.out.cell (World.block_lt_of_cell? w _ hx342_0)).trans hx342_0
                 replace p342 := eq_true p342
                 replace q342 := eq_true q342
                 go_wp2_with (first | (go_at_call 10; (with_reducible refine (Few_cut _ _ _ _ _ _ (by assumption) (by assumption) (by first | exact HC0.out | exact HC1.out)).mono ?_); rintro e w' ⟨rfl, rfl⟩) | ((with_reducible refine gate_builtin (b := .append) (xs := #[.tmp 58, .tmp 65]) rfl ?_); (try (refine gate_guard (by rfl) ?_; dsimp only)); at_builtin; refine Kd.R_append (Kd.int .i64) (w0 := w) w.heap.size rfl (.tmp 58) (.tmp 65) 22 3 (.int .i64 0) 8 rfl Tryd.underlying22 info3 rfl (by decide) (by omega) u12 x12_2 (wrap64 (ji10 * (rd y334 x13_2))) [.int .i64 (wrap64 (ji10 * (rd y334 x13_2)))] (fun _ => True) (fun _ => False) rfl rfl ?aP (fun _ hk => hk.elim) ?aF ?aO ?aB ?aS ?aL ?_; (case aP => exact rfl); (case aB => exact (by repeat (first | (with_reducible first | exact HB.out | apply below_alloc | apply pw_below_drewN | apply below_drew1) | exact HB.out))); (case aF => exact (fun _ _ => trivial)); (case aO => exact (qR HO_12.out)); (case aS => exact (below_size (by repeat (first | (with_reducible first | exact HB.out | apply below_alloc | apply pw_below_drewN | apply below_drew1) | exact HB.out)))); (case aL => have := LMc24.out; omega); intro v344 w25 ho hb hg hat; rw [← Ny343.out] at ho; have n0_ := Aside0.mk (Kd.S_after (ok := (fun _ => True)) (by (with_reducible repeat (first | apply Kd.S_alloc | apply Kd.S_drewN | apply Kd.S_drew)); exact Kd.S_mono HO_10.out (fun _ hk => ⟨trivial, hk⟩)) hg hat); have n1_ := Aside0.mk (hb); have n2_ := Aside0.mk (ho); clear HO_10; clear HB; clear HO_12; have HO_10 := n0_; have HB := n1_; have HO345 := n2_; clear n0_ n1_ n2_; clear ho hb hg hat))
                 repeat (go_quiet (first | ((with_reducible refine gate_builtin (b := .append) (xs := #[.tmp 58, .tmp 65]) rfl ?_); (try (refine gate_guard (by rfl) ?_; dsimp only)); at_builtin; refine Kd.R_append (Kd.int .i64) (w0 := w) w.heap.size rfl (.tmp 58) (.tmp 65) 22 3 (.int .i64 0) 8 rfl Tryd.underlying22 info3 rfl (by decide) (by omega) u12 x12_2 (wrap64 (ji10 * (rd y334 x13_2))) [.int .i64 (wrap64 (ji10 * (rd y334 x13_2)))] (fun _ => True) (fun _ => False) rfl rfl ?aP (fun _ hk => hk.elim) ?aF ?aO ?aB ?aS ?aL ?_; (case aP => exact rfl); (case aB => exact (by repeat (first | (with_reducible first | exact HB.out | apply below_alloc | apply pw_below_drewN | apply below_drew1) | exact HB.out))); (case aF => exact (fun _ _ => trivial)); (case aO => exact (qR HO_12.out)); (case aS => exact (below_size (by repeat (first | (with_reducible first | exact HB.out | apply below_alloc | apply pw_below_drewN | apply below_drew1) | exact HB.out)))); (case aL => have := LMc24.out; omega); intro v344 w25 ho hb hg hat; rw [← Ny343.out] at ho; have n0_ := Aside0.mk (Kd.S_after (ok := (fun _ => True)) (by (with_reducible repeat (first | apply Kd.S_alloc | apply Kd.S_drewN | apply Kd.S_drew)); exact Kd.S_mono HO_10.out (fun _ hk => ⟨trivial, hk⟩)) hg hat); have n1_ := Aside0.mk (hb); have n2_ := Aside0.mk (ho); clear HO_10; clear HB; clear HO_12; have HO_10 := n0_; have HB := n1_; have HO345 := n2_; clear n0_ n1_ n2_; clear ho hb hg hat)); try go_wp2_with (first | (go_at_call 10; (with_reducible refine (Few_cut _ _ _ _ _ _ (by assumption) (by assumption) (by first | exact HC0.out | exact HC1.out)).mono ?_); rintro e w' ⟨rfl, rfl⟩) | ((with_reducible refine gate_builtin (b := .append) (xs := #[.tmp 58, .tmp 65]) rfl ?_); (try (refine gate_guard (by rfl) ?_; dsimp only)); at_builtin; refine Kd.R_append (Kd.int .i64) (w0 := w) w.heap.size rfl (.tmp 58) (.tmp 65) 22 3 (.int .i64 0) 8 rfl Tryd.underlying22 info3 rfl (by decide) (by omega) u12 x12_2 (wrap64 (ji10 * (rd y334 x13_2))) [.int .i64 (wrap64 (ji10 * (rd y334 x13_2)))] (fun _ => True) (fun _ => False) rfl rfl ?aP (fun _ hk => hk.elim) ?aF ?aO ?aB ?aS ?aL ?_; (case aP => exact rfl); (case aB => exact (by repeat (first | (with_reducible first | exact HB.out | apply below_alloc | apply pw_below_drewN | apply below_drew1) | exact HB.out))); (case aF => exact (fun _ _ => trivial)); (case aO => exact (qR HO_12.out)); (case aS => exact (below_size (by repeat (first | (with_reducible first | exact HB.out | apply below_alloc | apply pw_below_drewN | apply below_drew1) | exact HB.out)))); (case aL => have := LMc24.out; omega); intro v344 w25 ho hb hg hat; rw [← Ny343.out] at ho; have n0_ := Aside0.mk (Kd.S_after (ok := (fun _ => True)) (by (with_reducible repeat (first | apply Kd.S_alloc | apply Kd.S_drewN | apply Kd.S_drew)); exact Kd.S_mono HO_10.out (fun _ hk => ⟨trivial, hk⟩)) hg hat); have n1_ := Aside0.mk (hb); have n2_ := Aside0.mk (ho); clear HO_10; clear HB; clear HO_12; have HO_10 := n0_; have HB := n1_; have HO345 := n2_; clear n0_ n1_ n2_; clear ho hb hg hat)))
                 go_roundg k2
                 case measure => have := HJ11.out; have := HK2.out; omega
                 case rel => exact ⟨(y343), (wrap64 (x13_2 + 1)), (by first | rfl | (simp; done) | (simp [*]; done) | (simp [wrap64]; done)), H', ⟨by have := HJ11.out; have := HK2.out; omega⟩, ⟨by (with_reducible repeat (first | apply Kd.S_alloc | apply Kd.S_drewN | apply Kd.S_drew)); exact Kd.S_mono HO_10.out (fun _ hk => hk.2)⟩, ⟨by (with_reducible repeat (first | apply Kd.R_alloc | apply Kd.R_drewN | apply Kd.R_drew)); exact HO345.out⟩, ⟨by repeat (first | (with_reducible first | exact HB.out | apply below_alloc | apply pw_below_drewN | apply below_drew1) | exact HB.out)⟩⟩
               · rw [if_neg c24] at H
                 exact absurd H (by simp)
             · rw [if_neg c23] at H
               exact absurd H (by simp)
           · rw [if_neg c22] at H
             have c22b0 : decide (x13_2 < (y334.length : Int)) = false := decide_eq_false c22
             clear c22
             replace H := Option.bind_eq_some_iff.mp H
             obtain ⟨⟨t346, t347⟩, A260, H⟩ := H
             replace H : (if t347 = 0 then (partitalaw26_PagesScaled.j2 k2 t333 t338 t346 ((t346.length : Int) != (t338.length : Int))) else (partitalaw26_PagesScaled.j2 k2 t333 t338 t346 true)) = some r := H
             have A26 := Aside0.mk A260
             clear A260
             have HC27 := Aside0.mk H
             clear H
             obtain ⟨Ao28, co28, eo28⟩ := Kd.R_slice HO_12.out
             subst eo28
             go_upto_region 13 with (first | (go_at_call 10; (with_reducible refine (Few_cut _ _ _ _ _ _ (by assumption) (by assumption) (by first | exact HC0.out | exact HC1.out)).mono ?_); rintro e w' ⟨rfl, rfl⟩) | (go_at_call 12; (with_reducible refine (pages_Break.calls _ _ x12_2 (wrap64 (ji10 * a1)) (wrap64 (ji10 * a2)) t346 t347 _ ?side1 ?side2 A26.out).mono ?_); (case side1 => repeat (first | exact (Kd.R_reads' HO_12.out).2.2 | (with_reducible refine Kd.C_alloc ?_ _) | (with_reducible refine Kd.C_drewN ?_ _) | (with_reducible refine Kd.C_drew ?_))); (case side2 => exact (Kd.R_reads' HO_12.out).2.1); rintro e w29 ⟨v348, rfl, ho0, hb⟩; have n0_ := Aside0.mk (Kd.S_elder' (by (with_reducible repeat (first | apply Kd.S_alloc | apply Kd.S_drewN | apply Kd.S_drew)); exact HO_10.out) (Kd.S_base ho0) hb); have n1_ := Aside0.mk (Kd.R_below (qR HO_12.out) hb); have n2_ := Aside0.mk (Kd.S_lower (Kd.S_new' (Kd.S_new' ho0 (Kd.S_lt (by (with_reducible repeat (first | apply Kd.S_alloc | apply Kd.S_drewN | apply Kd.S_drew)); exact HO_10.out))) (Kd.R_lt (qR HO_12.out))) (below_size (by repeat (first | (with_reducible first | exact HB.out | apply below_alloc | apply pw_below_drewN | apply below_drew1) | exact HB.out)))); have n3_ := Aside0.mk (below_step (by repeat (first | (with_reducible first | exact HB.out | apply below_alloc | apply pw_below_drewN | apply below_drew1) | exact HB.out)) hb); clear HO_10; clear HO_12; clear HB; have HO_10 := n0_; have HO_12 := n1_; have HO349 := n2_; have HB := n3_; clear n0_ n1_ n2_ n3_; (try clear hb); (try clear hb2); (try clear hk); (try clear hi); (try clear ho0)))
             repeat (go_quiet (first | (go_at_call 12; (with_reducible refine (pages_Break.calls _ _ x12_2 (wrap64 (ji10 * a1)) (wrap64 (ji10 * a2)) t346 t347 _ ?side1 ?side2 A26.out).mono ?_); (case side1 => repeat (first | exact (Kd.R_reads' HO_12.out).2.2 | (with_reducible refine Kd.C_alloc ?_ _) | (with_reducible refine Kd.C_drewN ?_ _) | (with_reducible refine Kd.C_drew ?_))); (case side2 => exact (Kd.R_reads' HO_12.out).2.1); rintro e w29 ⟨v348, rfl, ho0, hb⟩; have n0_ := Aside0.mk (Kd.S_elder' (by (with_reducible repeat (first | apply Kd.S_alloc | apply Kd.S_drewN | apply Kd.S_drew)); exact HO_10.out) (Kd.S_base ho0) hb); have n1_ := Aside0.mk (Kd.R_below (qR HO_12.out) hb); have n2_ := Aside0.mk (Kd.S_lower (Kd.S_new' (Kd.S_new' ho0 (Kd.S_lt (by (with_reducible repeat (first | apply Kd.S_alloc | apply Kd.S_drewN | apply Kd.S_drew)); exact HO_10.out))) (Kd.R_lt (qR HO_12.out))) (below_size (by repeat (first | (with_reducible first | exact HB.out | apply below_alloc | apply pw_below_drewN | apply below_drew1) | exact HB.out)))); have n3_ := Aside0.mk (below_step (by repeat (first | (with_reducible first | exact HB.out | apply below_alloc | apply pw_below_drewN | apply below_drew1) | exact HB.out)) hb); clear HO_10; clear HO_12; clear HB; have HO_10 := n0_; have HO_12 := n1_; have HO349 := n2_; have HB := n3_; clear n0_ n1_ n2_ n3_; (try clear hb); (try clear hb2); (try clear hk); (try clear hi); (try clear ho0))); go_upto_region 13 with (first | (go_at_call 10; (with_reducible refine (Few_cut _ _ _ _ _ _ (by assumption) (by assumption) (by first | exact HC0.out | exact HC1.out)).mono ?_); rintro e w' ⟨rfl, rfl⟩) | (go_at_call 12; (with_reducible refine (pages_Break.calls _ _ x12_2 (wrap64 (ji10 * a1)) (wrap64 (ji10 * a2)) t346 t347 _ ?side1 ?side2 A26.out).mono ?_); (case side1 => repeat (first | exact (Kd.R_reads' HO_12.out).2.2 | (with_reducible refine Kd.C_alloc ?_ _) | (with_reducible refine Kd.C_drewN ?_ _) | (with_reducible refine Kd.C_drew ?_))); (case side2 => exact (Kd.R_reads' HO_12.out).2.1); rintro e w29 ⟨v348, rfl, ho0, hb⟩; have n0_ := Aside0.mk (Kd.S_elder' (by (with_reducible repeat (first | apply Kd.S_alloc | apply Kd.S_drewN | apply Kd.S_drew)); exact HO_10.out) (Kd.S_base ho0) hb); have n1_ := Aside0.mk (Kd.R_below (qR HO_12.out) hb); have n2_ := Aside0.mk (Kd.S_lower (Kd.S_new' (Kd.S_new' ho0 (Kd.S_lt (by (with_reducible repeat (first | apply Kd.S_alloc | apply Kd.S_drewN | apply Kd.S_drew)); exact HO_10.out))) (Kd.R_lt (qR HO_12.out))) (below_size (by repeat (first | (with_reducible first | exact HB.out | apply below_alloc | apply pw_below_drewN | apply below_drew1) | exact HB.out)))); have n3_ := Aside0.mk (below_step (by repeat (first | (with_reducible first | exact HB.out | apply below_alloc | apply pw_below_drewN | apply below_drew1) | exact HB.out)) hb); clear HO_10; clear HO_12; clear HB; have HO_10 := n0_; have HO_12 := n1_; have HO349 := n2_; have HB := n3_; clear n0_ n1_ n2_ n3_; (try clear hb); (try clear hb2); (try clear hk); (try clear hi); (try clear ho0))))
             (try simp only [Act.put, qa_, qz_, qs_])
             go_cut [86] (fun v86 wc => ∃ (kq : Nat) (x86_26 : Bool), v86 = .bool x86_26 ∧ Aside0 (partitalaw26_PagesScaled.j2 kq t333 t338 t346 x86_26 = some r) ∧ Aside0 (kq ≤ k2) ∧ Aside0 (Kd.S k37 37 wc w.heap.size (fun k_ => some k_ ≠ (v348 : Value).ownBlock) v340 t338) ∧ Aside0 (Kd.S k37 37 wc w.heap.size (fun k_ => some k_ ≠ (v340 : Value).ownBlock) v348 t346) ∧ Aside0 (Below w.heap.size w wc))
             case first =>
              have H := HC27.out
              clear HC27
              by_cases c30 : t347 = 0
              · rw [if_pos c30] at H
                have c30b0 : (t347 == 0) = true := beq_iff_eq.mpr c30
                have c30b1 : (t347 != 0) = false := bne_eq_false_iff_eq.mpr c30
                clear c30
                (first | rw [c30b0] | (simp only [i64_w, i32_w]; rw [c30b0]) | skip)
                have H' := Aside0.mk H
                clear H
                obtain ⟨Ao31, co31, eo31⟩ := Kd.S_slice HO349.out
                subst eo31
                obtain ⟨Ao32, co32, eo32⟩ := Kd.S_slice HO_10.out
                subst eo32
                go_wp2
                repeat (go_quiet (fail); try go_wp2)
                go_meet
                case rel => exact ⟨_, (((t346.length : Int) != (t338.length : Int))), (by first | rfl | (simp; done) | (simp [*]; done) | (simp [wrap64]; done)), H', ⟨by have := HJ11.out; have := HK2.out; first | omega | exact Nat.le_refl _⟩, ⟨by (with_reducible repeat (first | apply Kd.S_alloc | apply Kd.S_drewN | apply Kd.S_drew)); exact Kd.S_mono HO_10.out (fun _ hk => hk.2)⟩, ⟨by (with_reducible repeat (first | apply Kd.S_alloc | apply Kd.S_drewN | apply Kd.S_drew)); exact Kd.S_mono HO349.out (fun _ hk => hk.1.2)⟩, ⟨by repeat (first | (with_reducible first | exact HB.out | apply below_alloc | apply pw_below_drewN | apply below_drew1) | exact HB.out)⟩⟩
              · rw [if_neg c30] at H
                have c30b0 : (t347 == 0) = false := beq_eq_false_iff_ne.mpr c30
                have c30b1 : (t347 != 0) = true := bne_iff_ne.mpr c30
                (first | rw [c30b0] | (simp only [i64_w, i32_w]; rw [c30b0]) | skip)
                have H' := Aside0.mk H
                clear H
                go_wp2
                repeat (go_quiet (fail); try go_wp2)
                go_meet
                case rel => exact ⟨_, (true), (by first | rfl | (simp; done) | (simp [*]; done) | (simp [wrap64]; done)), H', ⟨by have := HJ11.out; have := HK2.out; first | omega | exact Nat.le_refl _⟩, ⟨by (with_reducible repeat (first | apply Kd.S_alloc | apply Kd.S_drewN | apply Kd.S_drew)); exact Kd.S_mono HO_10.out (fun _ hk => hk.2)⟩, ⟨by (with_reducible repeat (first | apply Kd.S_alloc | apply Kd.S_drewN | apply Kd.S_drew)); exact Kd.S_mono HO349.out (fun _ hk => hk.1.2)⟩, ⟨by repeat (first | (with_reducible first | exact HB.out | apply below_alloc | apply pw_below_drewN | apply below_drew1) | exact HB.out)⟩⟩
             case rest =>
              clear HC27
              try clear c1
              try clear q1
              try clear c2
              try clear p2
              try clear c3
              try clear p3
              try clear q3
              try clear hx3
              try clear p6
              try clear c7
              try clear c7b0
              try clear c7b1
              try clear c8
              try clear c8b0
              try clear c8b1
              try clear q14
              try clear c16
              try clear c16b0
              try clear c16b1
              try clear c17
              try clear c17b0
              try clear c17b1
              try clear c18
              try clear c18b0
              try clear c19
              try clear c20
              try clear c22
              try clear c22b0
              try clear c23
              try clear c23b0
              try clear c24
              try clear c30
              try clear c30b0
              try clear c30b1
              try clear hx342_0
              try clear p2
              try clear p342
              try clear q1
              try clear q14
              try clear q342
              obtain ⟨kq, x86_26, rfl, HA, HJ26, HO_10, HO_14, HB⟩ := hcut
              cases kq with
              | zero => exact absurd HA.out (by simp [partitalaw26_PagesScaled.j2])
              | succ kj26 =>
               have H := HA.out
               clear HA
               simp only [partitalaw26_PagesScaled.j2] at H
               by_cases c33 : x86_26 = true
               · subst c33
                 have H1 : none = some r := by rw [if_pos rfl] at H; exact H
                 cases H1
               · replace c33 := Bool.eq_false_iff.mpr c33
                 subst c33
                 have H1 : (partitalaw26_PagesScaled.l1 kj26 t333 t338 t346 0) = some r := by rw [if_neg (show ¬ (false = true) by decide)] at H; exact H
                 clear H
                 have H := H1
                 clear H1
                 have H' := Aside0.mk H
                 clear H
                 go_wp2
                 repeat (go_quiet (fail); try go_wp2)
                 go_loopg [16] kj26 (fun kq v16 w' => ∃ (x16_4 : Int), v16 = .int .i64 x16_4 ∧ Aside0 (partitalaw26_PagesScaled.l1 kq t333 t338 t346 x16_4 = some r) ∧ Aside0 (kq ≤ kj26) ∧ Aside0 (Kd.S k37 37 w' w.heap.size (fun k_ => some k_ ≠ (v348 : Value).ownBlock) v340 t338) ∧ Aside0 (Kd.S k37 37 w' w.heap.size (fun k_ => some k_ ≠ (v340 : Value).ownBlock) v348 t346) ∧ Aside0 (Below w.heap.size w w'))
                 case atStart => exact ⟨(0), (by first | rfl | (simp; done) | (simp [*]; done) | (simp [wrap64]; done)), H', ⟨Nat.le_refl _⟩, ⟨by (with_reducible repeat (first | apply Kd.S_alloc | apply Kd.S_drewN | apply Kd.S_drew)); exact HO_10.out⟩, ⟨by (with_reducible repeat (first | apply Kd.S_alloc | apply Kd.S_drewN | apply Kd.S_drew)); exact HO_14.out⟩, ⟨by repeat (first | (with_reducible first | exact HB.out | apply below_alloc | apply pw_below_drewN | apply below_drew1) | exact HB.out)⟩⟩
                 case round =>
                  clear H'
                  try clear c1
                  try clear q1
                  try clear c2
                  try clear p2
                  try clear c3
                  try clear p3
                  try clear q3
                  try clear hx3
                  try clear p6
                  try clear c7
                  try clear c7b0
                  try clear c7b1
                  try clear c8
                  try clear c8b0
                  try clear c8b1
                  try clear q14
                  try clear c16
                  try clear c16b0
                  try clear c16b1
                  try clear c17
                  try clear c17b0
                  try clear c17b1
                  try clear c18
                  try clear c18b0
                  try clear c19
                  try clear c20
                  try clear c22
                  try clear c22b0
                  try clear c23
                  try clear c23b0
                  try clear c24
                  try clear c30
                  try clear c30b0
                  try clear c30b1
                  try clear c33
                  try clear hx342_0
                  try clear p2
                  try clear p3
                  try clear p342
                  try clear p6
                  try clear q1
                  try clear q14
                  try clear q3
                  try clear q342
                  obtain ⟨x16_4, rfl, HA, HK4, HO_10, HO_14, HB⟩ := hrel
                  cases gk with
                  | zero => exact absurd HA.out (by simp [partitalaw26_PagesScaled.l1])
                  | succ k4 =>
                   have H := HA.out
                   clear HA
                   simp only [partitalaw26_PagesScaled.l1] at H
                   by_cases c34 : x16_4 < (t338.length : Int)
                   · rw [if_pos c34] at H
                     have c34b0 : decide (x16_4 < (t338.length : Int)) = true := decide_eq_true c34
                     clear c34
                     by_cases c35 : 0 ≤ x16_4
                     · rw [if_pos c35] at H
                       have c35b0 : decide (0 ≤ x16_4) = true := decide_eq_true c35
                       clear c35
                       by_cases c36 : x16_4 < (t346.length : Int)
                       · rw [if_pos c36] at H
                         have c36b0 : decide (x16_4 < (t346.length : Int)) = true := decide_eq_true c36
                         clear c36
                         by_cases c37 : ((rd_T37 t346 x16_4).f0) = ((rd_T37 t338 x16_4).f0)
                         · rw [if_pos c37] at H
                           have c37b0 : (((rd_T37 t346 x16_4).f0) == ((rd_T37 t338 x16_4).f0)) = true := beq_iff_eq.mpr c37
                           have c37b1 : (((rd_T37 t346 x16_4).f0) != ((rd_T37 t338 x16_4).f0)) = false := bne_eq_false_iff_eq.mpr c37
                           clear c37
                           by_cases c38 : ((rd_T37 t346 x16_4).f1) = ((rd_T37 t338 x16_4).f1)
                           · rw [if_pos c38] at H
                             have c38b0 : (((rd_T37 t346 x16_4).f1) == ((rd_T37 t338 x16_4).f1)) = true := beq_iff_eq.mpr c38
                             have c38b1 : (((rd_T37 t346 x16_4).f1) != ((rd_T37 t338 x16_4).f1)) = false := bne_eq_false_iff_eq.mpr c38
                             clear c38
                             have H' := Aside0.mk H
                             clear H
                             obtain ⟨Ao39, co39, eo39⟩ := Kd.S_slice HO_10.out
                             subst eo39
                             obtain ⟨Ao40, co40, eo40⟩ := Kd.S_slice HO_14.out
                             subst eo40
                             have p350 : 0 ≤ (x16_4 : Int) := of_decide_eq_true (by first | (with_reducible assumption) | assumption)
                             have q350 : x16_4 < (t346.length : Int) := of_decide_eq_true (by first | (with_reducible assumption) | assumption)
                             obtain ⟨ad350, A350_2, c350_2, e350, hx350_0, hx350_1, hx350_2, hl350_2, hi350_2⟩ := at_T37 (Kd.S_reads' HO_14.out).2.2 x16_4 p350 q350
                             cases e350
                             obtain ⟨ce350, hce350, hMe350, hcc350⟩ := Kd.S_get HO_14.out z37 x16_4 p350 (by first | exact q350 | exact of_decide_eq_true (by first | (with_reducible assumption) | assumption) | (have e_ := (Kd.S_reads' HO_14.out).1; omega))
                             obtain ⟨ve350_2, rfl, ge350_2⟩ := k37_openM hMe350
                             have hv350_2 := hcc350 2 _ rfl
                             rw [add_field _ _ 2 (by omega)] at hv350_2
                             replace hv350_2 := Option.some.inj (hv350_2.symm.trans hx350_2)
                             rw [hv350_2] at ge350_2
                             have HL350_2 := Aside0.mk (show Kd.R (Kd.int .i64) 3 _ _ _ _ ((rd_T37 t346 x16_4).f2) from ge350_2)
                             clear hv350_2 ge350_2
                             clear hcc350 hce350
                             have HR350_2 := Aside0.mk hi350_2
                             have HC350_2 := Aside0.mk hl350_2
                             clear hi350_2 hl350_2
                             replace p350 := eq_true p350
                             replace q350 := eq_true q350
                             have p351 : 0 ≤ (x16_4 : Int) := of_decide_eq_true (by first | (with_reducible assumption) | assumption)
                             have q351 : x16_4 < (t338.length : Int) := of_decide_eq_true (by first | (with_reducible assumption) | assumption)
                             obtain ⟨ad351, A351_2, c351_2, e351, hx351_0, hx351_1, hx351_2, hl351_2, hi351_2⟩ := at_T37 (Kd.S_reads' HO_10.out).2.2 x16_4 p351 q351
                             cases e351
                             obtain ⟨ce351, hce351, hMe351, hcc351⟩ := Kd.S_get HO_10.out z37 x16_4 p351 (by first | exact q351 | exact of_decide_eq_true (by first | (with_reducible assumption) | assumption) | (have e_ := (Kd.S_reads' HO_10.out).1; omega))
                             obtain ⟨ve351_2, rfl, ge351_2⟩ := k37_openM hMe351
                             have hv351_2 := hcc351 2 _ rfl
                             rw [add_field _ _ 2 (by omega)] at hv351_2
                             replace hv351_2 := Option.some.inj (hv351_2.symm.trans hx351_2)
                             rw [hv351_2] at ge351_2
                             have HL351_2 := Aside0.mk (show Kd.R (Kd.int .i64) 3 _ _ _ _ ((rd_T37 t338 x16_4).f2) from ge351_2)
                             clear hv351_2 ge351_2
                             clear hcc351 hce351
                             have HR351_2 := Aside0.mk hi351_2
                             have HC351_2 := Aside0.mk hl351_2
                             clear hi351_2 hl351_2
                             replace p351 := eq_true p351
                             replace q351 := eq_true q351
                             have p352 : 0 ≤ (x16_4 : Int) := of_decide_eq_true (by first | (with_reducible assumption) | assumption)
                             have q352 : x16_4 < (t346.length : Int) := of_decide_eq_true (by first | (with_reducible assumption) | assumption)
                             obtain ⟨ad352, A352_2, c352_2, e352, hx352_0, hx352_1, hx352_2, hl352_2, hi352_2⟩ := at_T37 (Kd.S_reads' HO_14.out).2.2 x16_4 p352 q352
                             obtain rfl : ad350 = ad352 := (by injection e352)
                             obtain ⟨ce352, hce352, hMe352, hcc352⟩ := Kd.S_get HO_14.out z37 x16_4 p352 (by first | exact q352 | exact of_decide_eq_true (by first | (with_reducible assumption) | assumption) | (have e_ := (Kd.S_reads' HO_14.out).1; omega))
                             obtain ⟨ve352_2, rfl, ge352_2⟩ := k37_openM hMe352
                             have hv352_2 := hcc352 2 _ rfl
                             rw [add_field _ _ 2 (by omega)] at hv352_2
                             replace hv352_2 := Option.some.inj (hv352_2.symm.trans hx352_2)
                             rw [hv352_2] at ge352_2
                             have HL352_2 := Aside0.mk (show Kd.R (Kd.int .i64) 3 _ _ _ _ ((rd_T37 t346 x16_4).f2) from ge352_2)
                             clear hv352_2 ge352_2
                             clear hcc352 hce352
                             have HR352_2 := Aside0.mk hi352_2
                             have HC352_2 := Aside0.mk hl352_2
                             clear hi352_2 hl352_2
                             replace p352 := eq_true p352
                             replace q352 := eq_true q352
                             have ea_ := Option.some.inj (hx350_2.symm.trans hx352_2)
                             injection ea_ with ea_ en_ ec_
                             subst ea_
                             subst ec_
                             clear en_
                             have p353 : 0 ≤ (x16_4 : Int) := of_decide_eq_true (by first | (with_reducible assumption) | assumption)
                             have q353 : x16_4 < (t338.length : Int) := of_decide_eq_true (by first | (with_reducible assumption) | assumption)
                             obtain ⟨ad353, A353_2, c353_2, e353, hx353_0, hx353_1, hx353_2, hl353_2, hi353_2⟩ := at_T37 (Kd.S_reads' HO_10.out).2.2 x16_4 p353 q353
                             obtain rfl : ad351 = ad353 := (by injection e353)
                             obtain ⟨ce353, hce353, hMe353, hcc353⟩ := Kd.S_get HO_10.out z37 x16_4 p353 (by first | exact q353 | exact of_decide_eq_true (by first | (with_reducible assumption) | assumption) | (have e_ := (Kd.S_reads' HO_10.out).1; omega))
                             obtain ⟨ve353_2, rfl, ge353_2⟩ := k37_openM hMe353
                             have hv353_2 := hcc353 2 _ rfl
                             rw [add_field _ _ 2 (by omega)] at hv353_2
                             replace hv353_2 := Option.some.inj (hv353_2.symm.trans hx353_2)
                             rw [hv353_2] at ge353_2
                             have HL353_2 := Aside0.mk (show Kd.R (Kd.int .i64) 3 _ _ _ _ ((rd_T37 t338 x16_4).f2) from ge353_2)
                             clear hv353_2 ge353_2
                             clear hcc353 hce353
                             have HR353_2 := Aside0.mk hi353_2
                             have HC353_2 := Aside0.mk hl353_2
                             clear hi353_2 hl353_2
                             replace p353 := eq_true p353
                             replace q353 := eq_true q353
                             have ea_ := Option.some.inj (hx351_2.symm.trans hx353_2)
                             injection ea_ with ea_ en_ ec_
                             subst ea_
                             subst ec_
                             clear en_
                             go_wp2
                             repeat (go_quiet (fail); try go_wp2)
                             go_roundg k4
                             case measure => have := HJ11.out; have := HK2.out; have := HJ26.out; have := HK4.out; omega
                             case rel => exact ⟨(wrap64 (x16_4 + 1)), (by first | rfl | (simp; done) | (simp [*]; done) | (simp [wrap64]; done)), H', ⟨by have := HJ11.out; have := HK2.out; have := HJ26.out; have := HK4.out; omega⟩, ⟨by (with_reducible repeat (first | apply Kd.S_alloc | apply Kd.S_drewN | apply Kd.S_drew)); exact HO_10.out⟩, ⟨by (with_reducible repeat (first | apply Kd.S_alloc | apply Kd.S_drewN | apply Kd.S_drew)); exact HO_14.out⟩, ⟨by repeat (first | (with_reducible first | exact HB.out | apply below_alloc | apply pw_below_drewN | apply below_drew1) | exact HB.out)⟩⟩
                           · rw [if_neg c38] at H
                             exact absurd H (by simp)
                         · rw [if_neg c37] at H
                           exact absurd H (by simp)
                       · rw [if_neg c36] at H
                         exact absurd H (by simp)
                     · rw [if_neg c35] at H
                       exact absurd H (by simp)
                   · rw [if_neg c34] at H
                     have c34b0 : decide (x16_4 < (t338.length : Int)) = false := decide_eq_false c34
                     clear c34
                     obtain rfl := Option.some.inj H
                     obtain ⟨Ao45, co45, eo45⟩ := Kd.S_slice HO_10.out
                     subst eo45
                     go_wp2
                     repeat (go_quiet (fail); try go_wp2)
                     go_ret
                     exact ⟨by first | rfl | (simp [errW_none, errW_some] <;> rfl) | (simp only [← hji6, ← hji9, ← hji10]; first | rfl | (simp [errW_none, errW_some] <;> rfl)) | (simp [*, errW_none, errW_some] <;> rfl), by repeat (first | (with_reducible first | exact HB.out | apply below_alloc | apply pw_below_drewN | apply below_drew1) | exact HB.out)⟩
   · rw [if_neg c8] at H
     exact absurd H (by simp)
 · rw [if_neg c7] at H
   exact absurd H (by simp)

end Go.Proofs.YtbpcilbplgbonaaDoor.Q
