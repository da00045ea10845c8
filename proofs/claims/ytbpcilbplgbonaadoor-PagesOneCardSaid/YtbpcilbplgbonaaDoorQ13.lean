-- Written by a program of this session (myprint.py), function by function.
import Derived.Test.YtbpcilbplgbonaaDoorQ0
import Derived.Test.YtbpcilbplgbonaaDoorQ2
import Derived.Test.YtbpcilbplgbonaaDoorQ6
import Derived.Test.YtbpcilbplgbonaaDoorFew
import Derived.Test.YtbpcilbplgbonaaDoorWAt
import Derived.Test.YtbpcilbplgbonaaDoorWN
import Derived.Test.YtbpcilbplgbonaaDoorWNEv
namespace Go.Proofs.YtbpcilbplgbonaaDoor.Q
open Go.RowKit Go.Proofs.YtbpcilbplgbonaaDoorW.PrintWords Go.Proofs.YtbpcilbplgbonaaDoorW.PrintLast Go.Proofs.YtbpcilbplgbonaaDoorW.PrintMore
attribute [local go_sem] max2_int min2_int max_two min_two max_three min_three max_four min_four   -- for this text's walks alone
set_option linter.unusedVariables false
set_option linter.unusedSimpArgs false

/-! ### partitalaw26_PagesOne: function 7 -/
mutual
def partitalaw26_PagesOne.j0 : Nat → List Int → Int → Int → Bool → List (S37) → Bool → Option (Bool)
 | 0, _, _, _, _, _, _ => none
 | k + 1, x0, x1, x2, x7, x8, x29 => if x29 = true then (if x7 = true then (some ((x8.length : Int) == 0)) else none) else (partitalaw26_PagesOne.l0 k x0 x1 x2 x7 x8 ([] : List Int) 0 0)
def partitalaw26_PagesOne.l0 : Nat → List Int → Int → Int → Bool → List (S37) → List Int → Int → Int → Option (Bool)
 | 0, _, _, _, _, _, _, _, _ => none
 | k + 1, x0, x1, x2, x7, x8, x10, x11, x12 => if x12 < (x0.length : Int) then (if x10.length < 17592186044416 then (if 0 ≤ x12 then (partitalaw26_PagesOne.l0 k x0 x1 x2 x7 x8 (x10 ++ [x11]) (wrap64 ((wrap64 (x11 + (rd x0 x12))) + x2)) (wrap64 (x12 + 1))) else (none)) else (none)) else (if x7 = true then (if (wrap64 (x11 - x2)) > x1 then (some true) else ((partitaref26_Same.f k x8 (([(⟨0, (x0.length : Int), x10⟩ : S37)] : List (S37)))).bind fun t332 => (some t332))) else none)
end
def partitalaw26_PagesOne.f (k : Nat) (l0 : List Int) (a1 : Int) (a2 : Int) : Option (Bool) := (partitalaw26_shown.f k).bind fun t316 => (if 0 ≤ (mn (l0.length : Int) 101) then (if (mn (l0.length : Int) 101) ≤ (l0.length : Int) then ((some (l0.take ((mn (l0.length : Int) 101) : Int).toNat : List Int)).bind fun y317 => ((pages_Break.f y317 a1 a2).bind fun bt321 => (if bt321.2 = 0 then (partitalaw26_PagesOne.j0 k y317 a1 a2 t316 bt321.1 ((y317.length : Int) == 0)) else (partitalaw26_PagesOne.j0 k y317 a1 a2 t316 bt321.1 true)))) else (none)) else (none))
theorem partitalaw26_PagesOne.mono_l : ∀ k, (∀ y0 y1 y2 y3 y4 y5, LeO (partitalaw26_PagesOne.j0 k y0 y1 y2 y3 y4 y5) (partitalaw26_PagesOne.j0 (k + 1) y0 y1 y2 y3 y4 y5)) ∧ (∀ y0 y1 y2 y3 y4 y5 y6 y7, LeO (partitalaw26_PagesOne.l0 k y0 y1 y2 y3 y4 y5 y6 y7) (partitalaw26_PagesOne.l0 (k + 1) y0 y1 y2 y3 y4 y5 y6 y7))
 | 0 => ⟨fun _ _ _ _ _ _ r h => by simp [partitalaw26_PagesOne.j0] at h, fun _ _ _ _ _ _ _ _ r h => by simp [partitalaw26_PagesOne.l0] at h⟩
 | k + 1 => by
  obtain ⟨ih0, ih1⟩ := partitalaw26_PagesOne.mono_l k
  refine ⟨?_, ?_⟩
  · intro y0 y1 y2 y3 y4 y5
    unfold partitalaw26_PagesOne.j0
    repeat' first
    | (with_reducible exact ih0 _ _ _ _ _ _)
    | (with_reducible exact ih1 _ _ _ _ _ _ _ _)
    | (with_reducible exact partitalaw26_shown.mono _)
    | (with_reducible exact partitaref26_Same.mono _ _ _)
    | (with_reducible exact LeO.refl _)
    | (with_reducible exact LeO.none _)
    | (with_reducible refine LeO.ite ?_ ?_)
    | (with_reducible refine LeO.bind ?_ (fun _ => ?_))
    | exact ih0 _ _ _ _ _ _
    | exact ih1 _ _ _ _ _ _ _ _
    | exact partitalaw26_shown.mono _
    | exact partitaref26_Same.mono _ _ _
    | exact LeO.none _
    | refine LeO.ite ?_ ?_
    | refine LeO.bind ?_ (fun _ => ?_)
  · intro y0 y1 y2 y3 y4 y5 y6 y7
    unfold partitalaw26_PagesOne.l0
    repeat' first
    | (with_reducible exact ih0 _ _ _ _ _ _)
    | (with_reducible exact ih1 _ _ _ _ _ _ _ _)
    | (with_reducible exact partitalaw26_shown.mono _)
    | (with_reducible exact partitaref26_Same.mono _ _ _)
    | (with_reducible exact LeO.refl _)
    | (with_reducible exact LeO.none _)
    | (with_reducible refine LeO.ite ?_ ?_)
    | (with_reducible refine LeO.bind ?_ (fun _ => ?_))
    | exact ih0 _ _ _ _ _ _
    | exact ih1 _ _ _ _ _ _ _ _
    | exact partitalaw26_shown.mono _
    | exact partitaref26_Same.mono _ _ _
    | exact LeO.none _
    | refine LeO.ite ?_ ?_
    | refine LeO.bind ?_ (fun _ => ?_)
theorem partitalaw26_PagesOne.mono : ∀ a0 a1 a2 k, LeO (partitalaw26_PagesOne.f k a0 a1 a2) (partitalaw26_PagesOne.f (k + 1) a0 a1 a2) := by
 intro a0 a1 a2 k
 obtain ⟨ih0, ih1⟩ := partitalaw26_PagesOne.mono_l k
 unfold partitalaw26_PagesOne.f
 repeat' first
  | (with_reducible exact ih0 _ _ _ _ _ _)
  | (with_reducible exact ih1 _ _ _ _ _ _ _ _)
  | (with_reducible exact partitalaw26_shown.mono _)
  | (with_reducible exact partitaref26_Same.mono _ _ _)
  | (with_reducible exact LeO.refl _)
  | (with_reducible exact LeO.none _)
  | (with_reducible refine LeO.ite ?_ ?_)
  | (with_reducible refine LeO.bind ?_ (fun _ => ?_))
  | exact ih0 _ _ _ _ _ _
  | exact ih1 _ _ _ _ _ _ _ _
  | exact partitalaw26_shown.mono _
  | exact partitaref26_Same.mono _ _ _
  | exact LeO.none _
  | refine LeO.ite ?_ ?_
  | refine LeO.bind ?_ (fun _ => ?_)
set_option maxHeartbeats 8000000 in
set_option maxRecDepth 100000 in
theorem partitalaw26_PagesOne.calls (k : Nat) (A0 : Option Addr) (c0 : Nat) (l0 : List Int) (a1 : Int) (a2 : Int) (r : Bool) (w : World) (hr0 : Kd.C (Kd.int .i64) w A0 l0.length l0) (hc0 : l0.length ≤ c0) (h : partitalaw26_PagesOne.f k l0 a1 a2 = some r) (SENTS : Aside0 (SentsE w) := by exact sents_step (by assumption) (by repeat (first | (with_reducible first | exact (by assumption : Aside0 (Below _ _ _)).out | apply below_alloc | apply pw_below_drewN | apply below_drew1)))) :
 Calls Tryd.prog 7 #[.slice A0 l0.length c0, .int .i64 a1, .int .i64 a2] w fun e w' => e = .returned (.bool r) ∧ Below w.heap.size w w' := by
 have hu37 := Tryd.underlying37
 have HR0 := Aside0.mk hr0
 have HC0 := Aside0.mk hc0
 clear hr0 hc0
 have HB := Aside0.mk (Below.refl w.heap.size w)
 have H : ((partitalaw26_shown.f k).bind fun t316 => (if 0 ≤ (mn (l0.length : Int) 101) then (if (mn (l0.length : Int) 101) ≤ (l0.length : Int) then ((some (l0.take ((mn (l0.length : Int) 101) : Int).toNat : List Int)).bind fun y317 => ((pages_Break.f y317 a1 a2).bind fun bt321 => (if bt321.2 = 0 then (partitalaw26_PagesOne.j0 k y317 a1 a2 t316 bt321.1 ((y317.length : Int) == 0)) else (partitalaw26_PagesOne.j0 k y317 a1 a2 t316 bt321.1 true)))) else (none)) else (none))) = some r := h
 clear h
 replace H := Option.bind_eq_some_iff.mp H
 obtain ⟨t316, A40, H⟩ := H
 replace H : (if 0 ≤ (mn (l0.length : Int) 101) then (if (mn (l0.length : Int) 101) ≤ (l0.length : Int) then ((some (l0.take ((mn (l0.length : Int) 101) : Int).toNat : List Int)).bind fun y317 => ((pages_Break.f y317 a1 a2).bind fun bt321 => (if bt321.2 = 0 then (partitalaw26_PagesOne.j0 k y317 a1 a2 t316 bt321.1 ((y317.length : Int) == 0)) else (partitalaw26_PagesOne.j0 k y317 a1 a2 t316 bt321.1 true)))) else (none)) else (none)) = some r := H
 have A4 := Aside0.mk A40
 clear A40
 obtain ⟨ji5, hji5⟩ : ∃ j_ : Int, (mn (l0.length : Int) 101) = j_ := ⟨_, rfl⟩
 replace H : (if 0 ≤ (ji5) then (if (ji5) ≤ (l0.length : Int) then ((some (l0.take ((ji5) : Int).toNat : List Int)).bind fun y317 => ((pages_Break.f y317 a1 a2).bind fun bt321 => (if bt321.2 = 0 then (partitalaw26_PagesOne.j0 k y317 a1 a2 t316 bt321.1 ((y317.length : Int) == 0)) else (partitalaw26_PagesOne.j0 k y317 a1 a2 t316 bt321.1 true)))) else (none)) else (none)) = some r := by first | (rw [hji5] at H; exact H) | (simp only [hji5] at H ⊢; exact H)
 (try rw [hji5] at A4)
 (try (have hji5h : ji5 ≤ 101 := by (rw [← hji5]; unfold mn; (repeat' split) <;> omega)))
 (try (have hji5g : ji5 ≤ 64 := by omega))
 (try (have hji5l : 0 ≤ ji5 := by (rw [← hji5]; unfold mn; (repeat' split) <;> omega)))
 (try (have hji5m : 0 ≤ ji5 := by omega))
 have hji5_ : (if 101 < (l0.length : Int) then 101 else (l0.length : Int)) = ji5 := hji5
 by_cases c6 : 0 ≤ (ji5)
 · rw [if_pos c6] at H
   have c6b0 := eq_true c6
   have c6b1 : decide (0 ≤ (ji5)) = true := decide_eq_true c6
   clear c6
   by_cases c7 : (ji5) ≤ (l0.length : Int)
   · rw [if_pos c7] at H
     have c7b0 := eq_true c7
     have c7b1 : decide ((ji5) ≤ (l0.length : Int)) = true := decide_eq_true c7
     clear c7
     obtain ⟨y317, hy317⟩ : ∃ y_ : List Int, y_ = (l0.take ((ji5) : Int).toNat) := ⟨_, rfl⟩
     replace H : ((pages_Break.f y317 a1 a2).bind fun bt321 => (if bt321.2 = 0 then (partitalaw26_PagesOne.j0 k y317 a1 a2 t316 bt321.1 ((y317.length : Int) == 0)) else (partitalaw26_PagesOne.j0 k y317 a1 a2 t316 bt321.1 true))) = some r := by first | (rw [hy317]; with_reducible exact H) | (have H2_ := (Option.bind_some _ _).symm.trans H; rw [hy317]; with_reducible exact H2_) | (have H2_ := (Option.bind_some _ _).symm.trans H; with_reducible exact H2_) | with_reducible exact H | (rw [hy317]; exact H) | exact H
     have Ny317 := Aside0.mk hy317
     clear hy317
     replace H := Option.bind_eq_some_iff.mp H
     obtain ⟨⟨t321, t322⟩, A80, H⟩ := H
     replace H : (if t322 = 0 then (partitalaw26_PagesOne.j0 k y317 a1 a2 t316 t321 ((y317.length : Int) == 0)) else (partitalaw26_PagesOne.j0 k y317 a1 a2 t316 t321 true)) = some r := H
     have A8 := Aside0.mk A80
     clear A80
     have HC9 := Aside0.mk H
     clear H
     go_enter Tryd.func7, Tryd.ntmps7
     go_upto_region 4 with (first | (go_at_call 10; (with_reducible refine (Few_cut _ _ _ _ _ _ (by assumption) (by assumption) (by first | exact HC0.out | exact HC1.out)).mono ?_); rintro e w' ⟨rfl, rfl⟩) | ((with_reducible refine gate_callee (f := 9) rfl ?_); refine goesL_ (some 13) rfl rfl Tryd.func9 (by kernel_rfl) rfl #[] rfl (by (try simp only [List.map_toArray, List.map_cons, List.map_nil]); first | done | rfl | (simp only [List.length_drop, List.length_take]; rfl)) ?_; (with_reducible refine (partitalaw26_shown.calls k  t316 _ A4.out).mono ?_); rintro e w10 ⟨rfl, hb⟩; refine ⟨_, rfl, ?_⟩; have n0_ := Aside0.mk (below_step (by repeat (first | (with_reducible first | exact HB.out | apply below_alloc | apply pw_below_drewN | apply below_drew1) | exact HB.out)) hb); clear HB; have HB := n0_; clear n0_; (try clear hb); (try clear hb2); (try clear hk); (try clear hi); have q11 : ((ji5) : Int) ≤ ((l0.length : Int) : Int) := of_decide_eq_true (by first | (with_reducible assumption) | assumption); obtain ⟨i011, hi011, _, hsz11, _⟩ := info_parts info3; have hroom11 : l0.length ≤ c0 := HC0.out; have hC11 : Kd.C (Kd.int .i64) _ A0 l0.length l0 := HR0.out; have hcut11 := cut_to (P := Tryd.prog) 22 3 .i64 Tryd.underlying22 hi011 A0 l0.length c0 (ji5) (of_decide_eq_true (by first | (with_reducible assumption) | assumption)) q11 hroom11; have hr11 := Kd.C_take (m := ((ji5) : Int).toNat) hC11 (by omega); have hy11 : y317.length = ((ji5) : Int).toNat := (by rw [Ny317.out, List.length_take]; omega); rw [← Ny317.out] at hr11; rw [← hy11] at hcut11; have HR320 := Aside0.mk hr11; have HC320 := Aside0.mk (show y317.length ≤ c0 from by omega); clear hr11 hC11 hroom11 hi011 hsz11; have KY11 := Aside0.mk hy11; clear hy11; replace q11 := eq_true q11) | ((with_reducible refine gate_callee (f := 12) rfl ?_); refine goesL_ (some 20) rfl rfl Tryd.func12 (by kernel_rfl) rfl #[.slice A0 y317.length c0, .int .i64 a1, .int .i64 a2] rfl (by (try simp only [List.map_toArray, List.map_cons, List.map_nil]); first | done | rfl | (simp only [List.length_drop, List.length_take]; rfl)) ?_; (with_reducible refine (pages_Break.calls _ _ y317 a1 a2 t321 t322 _ ?side1 ?side2 A8.out).mono ?_); (case side1 => repeat (first | exact (Kd.C_below HR320.out HB.out) | (with_reducible refine Kd.C_alloc ?_ _) | (with_reducible refine Kd.C_drewN ?_ _) | (with_reducible refine Kd.C_drew ?_))); (case side2 => exact HC320.out); rintro e w12 ⟨v323, rfl, ho0, hb⟩; refine ⟨_, rfl, ?_⟩; have n0_ := Aside0.mk (Kd.N_lower (Kd.N_mono (ok' := fun k_ => True) (Kd.S_N (Kd.S_bound ho0)) (fun k_ hk_ => trivial)) (below_size (by repeat (first | (with_reducible first | exact HB.out | apply below_alloc | apply pw_below_drewN | apply below_drew1) | exact HB.out)))); have n1_ := Aside0.mk (below_step (by repeat (first | (with_reducible first | exact HB.out | apply below_alloc | apply pw_below_drewN | apply below_drew1) | exact HB.out)) hb); clear HB; have HO324 := n0_; have HB := n1_; clear n0_ n1_; (try clear hb); (try clear hb2); (try clear hk); (try clear hi); (try clear ho0)))
     (try simp only [Act.put, qa_, qz_, qs_])
     go_cut [29] (fun v29 wc => ∃ (kq : Nat) (x29_8 : Bool), v29 = .bool x29_8 ∧ Aside0 (partitalaw26_PagesOne.j0 kq y317 a1 a2 t316 t321 x29_8 = some r) ∧ Aside0 (kq ≤ k) ∧ Aside0 (Kd.N k37 37 wc w.heap.size (fun _ => True) v323 t321) ∧ Aside0 (Below w.heap.size w wc))
     case first =>
      have H := HC9.out
      clear HC9
      by_cases c13 : t322 = 0
      · rw [if_pos c13] at H
        have c13b0 : (t322 == 0) = true := beq_iff_eq.mpr c13
        have c13b1 : (t322 != 0) = false := bne_eq_false_iff_eq.mpr c13
        clear c13
        (first | rw [c13b0] | (simp only [i64_w, i32_w]; rw [c13b0]) | skip)
        have H' := Aside0.mk H
        clear H
        go_wp2
        go_meet
        case rel => exact ⟨_, (((y317.length : Int) == 0)), (by first | rfl | (simp; done) | (simp [*]; done) | (simp [wrap64]; done)), H', ⟨by first | omega | exact Nat.le_refl _⟩, ⟨by (with_reducible repeat (first | apply Kd.N_alloc | apply Kd.N_drewN | apply Kd.N_drew)); exact HO324.out⟩, ⟨by repeat (first | (with_reducible first | exact HB.out | apply below_alloc | apply pw_below_drewN | apply below_drew1) | exact HB.out)⟩⟩
      · rw [if_neg c13] at H
        have c13b0 : (t322 == 0) = false := beq_eq_false_iff_ne.mpr c13
        have c13b1 : (t322 != 0) = true := bne_iff_ne.mpr c13
        (first | rw [c13b0] | (simp only [i64_w, i32_w]; rw [c13b0]) | skip)
        have H' := Aside0.mk H
        clear H
        go_wp2
        go_meet
        case rel => exact ⟨_, (true), (by first | rfl | (simp; done) | (simp [*]; done) | (simp [wrap64]; done)), H', ⟨by first | omega | exact Nat.le_refl _⟩, ⟨by (with_reducible repeat (first | apply Kd.N_alloc | apply Kd.N_drewN | apply Kd.N_drew)); exact HO324.out⟩, ⟨by repeat (first | (with_reducible first | exact HB.out | apply below_alloc | apply pw_below_drewN | apply below_drew1) | exact HB.out)⟩⟩
     case rest =>
      clear HC9
      try clear c1
      try clear q1
      try clear p2
      try clear c6
      try clear c6b0
      try clear c6b1
      try clear c7
      try clear c7b0
      try clear c7b1
      try clear c9
      try clear q11
      try clear c12
      try clear c13
      try clear c13b0
      try clear c13b1
      try clear q11
      obtain ⟨kq, x29_8, rfl, HA, HJ8, HO_8, HB⟩ := hcut
      cases kq with
      | zero => exact absurd HA.out (by simp [partitalaw26_PagesOne.j0])
      | succ kj8 =>
       have H := HA.out
       clear HA
       simp only [partitalaw26_PagesOne.j0] at H
       by_cases c14 : x29_8 = true
       · subst c14
         have H1 : (if t316 = true then (some ((t321.length : Int) == 0)) else none) = some r := by rw [if_pos rfl] at H; exact H
         clear H
         have H := H1
         clear H1
         by_cases c15 : t316 = true
         · subst c15
           have H1 : (some ((t321.length : Int) == 0)) = some r := by rw [if_pos rfl] at H; exact H
           clear H
           have H := H1
           clear H1
           obtain rfl := Option.some.inj H
           obtain ⟨Ao16, co16, eo16⟩ := Kd.N_slice HO_8.out
           subst eo16
           go_wp2
           go_ret
           exact ⟨by first | rfl | (simp [errW_none, errW_some] <;> rfl) | (simp only [← hji5]; first | rfl | (simp [errW_none, errW_some] <;> rfl)) | (simp [*, errW_none, errW_some] <;> rfl), by repeat (first | (with_reducible first | exact HB.out | apply below_alloc | apply pw_below_drewN | apply below_drew1) | exact HB.out)⟩
         · replace c15 := Bool.eq_false_iff.mpr c15
           subst c15
           have H1 : none = some r := by rw [if_neg (show ¬ (false = true) by decide)] at H; exact H
           cases H1
       · replace c14 := Bool.eq_false_iff.mpr c14
         subst c14
         have H1 : (partitalaw26_PagesOne.l0 kj8 y317 a1 a2 t316 t321 ([] : List Int) 0 0) = some r := by rw [if_neg (show ¬ (false = true) by decide)] at H; exact H
         clear H
         have H := H1
         clear H1
         have H' := Aside0.mk H
         clear H
         go_wp2
         go_loopg [10, 11, 12] kj8 (fun kq v10 v11 v12 w' => ∃ (x10_2 : List Int) (x11_2 : Int) (x12_2 : Int), v11 = .int .i64 x11_2 ∧ v12 = .int .i64 x12_2 ∧ Aside0 (partitalaw26_PagesOne.l0 kq y317 a1 a2 t316 t321 x10_2 x11_2 x12_2 = some r) ∧ Aside0 (kq ≤ kj8) ∧ Aside0 (Kd.N k37 37 w' w.heap.size (fun k_ => some k_ ≠ (v10 : Value).ownBlock) v323 t321) ∧ Aside0 (Kd.R (Kd.int .i64) 3 w' w.heap.size (fun _ => True) v10 x10_2) ∧ Aside0 (Below w.heap.size w w'))
         case atStart => exact ⟨(([] : List Int)), (0), (0), (by first | rfl | (simp; done) | (simp [*]; done) | (simp [wrap64]; done)), (by first | rfl | (simp; done) | (simp [*]; done) | (simp [wrap64]; done)), H', ⟨Nat.le_refl _⟩, ⟨by (with_reducible repeat (first | apply Kd.N_alloc | apply Kd.N_drewN | apply Kd.N_drew)); exact Kd.N_mono HO_8.out (fun _ hk => (by simp [Value.ownBlock]))⟩, ⟨by first | exact Kd.R_nil _ _ _ _ _ | exact Kd.N_nil _ _ _ _ _ | exact Kd.V_nil _ _ _ _ _ | exact Kd.Q_nil _ _ _ _ _ | exact Kd.S_nil _ _ _ _ _⟩, ⟨by repeat (first | (with_reducible first | exact HB.out | apply below_alloc | apply pw_below_drewN | apply below_drew1) | exact HB.out)⟩⟩
         case round =>
          clear H'
          try clear c1
          try clear q1
          try clear p2
          try clear c6
          try clear c6b0
          try clear c6b1
          try clear c7
          try clear c7b0
          try clear c7b1
          try clear c9
          try clear q11
          try clear c12
          try clear c13
          try clear c13b0
          try clear c13b1
          try clear c14
          try clear c15
          try clear p2
          try clear q1
          try clear q11
          obtain ⟨x10_2, x11_2, x12_2, rfl, rfl, HA, HK2, HO_8, HO_10, HB⟩ := hrel
          cases gk with
          | zero => exact absurd HA.out (by simp [partitalaw26_PagesOne.l0])
          | succ k2 =>
           have H := HA.out
           clear HA
           simp only [partitalaw26_PagesOne.l0] at H
           by_cases c17 : x12_2 < (y317.length : Int)
           · rw [if_pos c17] at H
             have c17b0 : decide (x12_2 < (y317.length : Int)) = true := decide_eq_true c17
             clear c17
             by_cases c18 : x10_2.length < 17592186044416
             · rw [if_pos c18] at H
               have LMc18 := Aside0.mk c18
               clear c18
               obtain ⟨y325, hy325⟩ : ∃ y_ : List Int, y_ = (x10_2 ++ [x11_2]) := ⟨_, rfl⟩
               replace H : (if 0 ≤ x12_2 then (partitalaw26_PagesOne.l0 k2 y317 a1 a2 t316 t321 y325 (wrap64 ((wrap64 (x11_2 + (rd y317 x12_2))) + a2)) (wrap64 (x12_2 + 1))) else (none)) = some r := by first | (rw [hy325]; with_reducible exact H) | (have H2_ := (Option.bind_some _ _).symm.trans H; rw [hy325]; with_reducible exact H2_) | (have H2_ := (Option.bind_some _ _).symm.trans H; with_reducible exact H2_) | with_reducible exact H | (rw [hy325]; exact H) | exact H
               have Ny325 := Aside0.mk hy325
               clear hy325
               by_cases c19 : 0 ≤ x12_2
               · rw [if_pos c19] at H
                 have c19b0 : decide (0 ≤ x12_2) = true := decide_eq_true c19
                 clear c19
                 have H' := Aside0.mk H
                 clear H
                 go_wp2_with (first | (go_at_call 10; (with_reducible refine (Few_cut _ _ _ _ _ _ (by assumption) (by assumption) (by first | exact HC0.out | exact HC1.out)).mono ?_); rintro e w' ⟨rfl, rfl⟩) | ((with_reducible refine gate_builtin (b := .append) (xs := #[.tmp 42, .tmp 44]) rfl ?_); (try (refine gate_guard (by rfl) ?_; dsimp only)); at_builtin; refine Kd.R_append (Kd.int .i64) (w0 := w) w.heap.size rfl (.tmp 42) (.tmp 44) 22 3 (.int .i64 0) 8 rfl Tryd.underlying22 info3 rfl (by decide) (by omega) u10 x10_2 x11_2 [.int .i64 x11_2] (fun _ => True) (fun _ => False) rfl rfl ?aP (fun _ hk => hk.elim) ?aF ?aO ?aB ?aS ?aL ?_; (case aP => exact rfl); (case aB => exact (by repeat (first | (with_reducible first | exact HB.out | apply below_alloc | apply pw_below_drewN | apply below_drew1) | exact HB.out))); (case aF => exact (fun _ _ => trivial)); (case aO => exact (qR HO_10.out)); (case aS => exact (below_size (by repeat (first | (with_reducible first | exact HB.out | apply below_alloc | apply pw_below_drewN | apply below_drew1) | exact HB.out)))); (case aL => have := LMc18.out; omega); intro v326 w20 ho hb hg hat; rw [← Ny325.out] at ho; have n0_ := Aside0.mk (Kd.N_after (ok := (fun _ => True)) (by (with_reducible repeat (first | apply Kd.N_alloc | apply Kd.N_drewN | apply Kd.N_drew)); exact Kd.N_mono HO_8.out (fun _ hk => ⟨trivial, hk⟩)) hg hat); have n1_ := Aside0.mk (hb); have n2_ := Aside0.mk (ho); clear HO_8; clear HB; clear HO_10; have HO_8 := n0_; have HB := n1_; have HO327 := n2_; clear n0_ n1_ n2_; clear ho hb hg hat; have p328 : 0 ≤ (x12_2 : Int) := of_decide_eq_true (by first | (with_reducible assumption) | assumption); have q328 : x12_2 < (y317.length : Int) := of_decide_eq_true (by first | (with_reducible assumption) | assumption); obtain ⟨ad328, e328, hx328_0⟩ := Kd.at_int HR320.out x12_2 p328 q328; cases e328; replace hx328_0 := (HB.out.cell (World.block_lt_of_cell? w _ hx328_0)).trans hx328_0; replace p328 := eq_true p328; replace q328 := eq_true q328))
                 go_roundg k2
                 case measure => have := HJ8.out; have := HK2.out; omega
                 case rel => exact ⟨(y325), (wrap64 ((wrap64 (x11_2 + (rd y317 x12_2))) + a2)), (wrap64 (x12_2 + 1)), (by first | rfl | (simp; done) | (simp [*]; done) | (simp [wrap64]; done)), (by first | rfl | (simp; done) | (simp [*]; done) | (simp [wrap64]; done)), H', ⟨by have := HJ8.out; have := HK2.out; omega⟩, ⟨by (with_reducible repeat (first | apply Kd.N_alloc | apply Kd.N_drewN | apply Kd.N_drew)); exact Kd.N_mono HO_8.out (fun _ hk => hk.2)⟩, ⟨by (with_reducible repeat (first | apply Kd.R_alloc | apply Kd.R_drewN | apply Kd.R_drew)); exact HO327.out⟩, ⟨by repeat (first | (with_reducible first | exact HB.out | apply below_alloc | apply pw_below_drewN | apply below_drew1) | exact HB.out)⟩⟩
               · rw [if_neg c19] at H
                 exact absurd H (by simp)
             · rw [if_neg c18] at H
               exact absurd H (by simp)
           · rw [if_neg c17] at H
             have c17b0 : decide (x12_2 < (y317.length : Int)) = false := decide_eq_false c17
             clear c17
             by_cases c21 : t316 = true
             · subst c21
               have H1 : (if (wrap64 (x11_2 - a2)) > a1 then (some true) else ((partitaref26_Same.f k2 t321 (([(⟨0, (y317.length : Int), x10_2⟩ : S37)] : List (S37)))).bind fun t332 => (some t332))) = some r := by rw [if_pos rfl] at H; exact H
               clear H
               have H := H1
               clear H1
               by_cases c22 : (wrap64 (x11_2 - a2)) > a1
               · rw [if_pos c22] at H
                 have c22b0 : decide (a1 < (wrap64 (x11_2 - a2))) = true := decide_eq_true c22
                 clear c22
                 obtain rfl := Option.some.inj H
                 go_wp2
                 go_ret
                 exact ⟨by first | rfl | (simp [errW_none, errW_some] <;> rfl) | (simp only [← hji5]; first | rfl | (simp [errW_none, errW_some] <;> rfl)) | (simp [*, errW_none, errW_some] <;> rfl), by repeat (first | (with_reducible first | exact HB.out | apply below_alloc | apply pw_below_drewN | apply below_drew1) | exact HB.out)⟩
               · rw [if_neg c22] at H
                 have c22b0 : decide (a1 < (wrap64 (x11_2 - a2))) = false := decide_eq_false c22
                 clear c22
                 obtain ⟨y329, hy329⟩ : ∃ y_ : List (S37), y_ = (([(⟨0, (y317.length : Int), x10_2⟩ : S37)] : List (S37))) := ⟨_, rfl⟩
                 replace H : ((partitaref26_Same.f k2 t321 y329).bind fun t332 => (some t332)) = some r := by first | (rw [hy329]; with_reducible exact H) | (have H2_ := (Option.bind_some _ _).symm.trans H; rw [hy329]; with_reducible exact H2_) | (have H2_ := (Option.bind_some _ _).symm.trans H; with_reducible exact H2_) | with_reducible exact H | (rw [hy329]; exact H) | exact H
                 have Ny329 := Aside0.mk hy329
                 clear hy329
                 replace H := Option.bind_eq_some_iff.mp H
                 obtain ⟨t332, A230, H⟩ := H
                 replace H : (some t332) = some r := H
                 have A23 := Aside0.mk A230
                 clear A230
                 obtain rfl := Option.some.inj H
                 obtain ⟨Ao24, co24, eo24⟩ := Kd.R_slice HO_10.out
                 subst eo24
                 go_wp2_with (first | (go_at_call 10; (with_reducible refine (Few_cut _ _ _ _ _ _ (by assumption) (by assumption) (by first | exact HC0.out | exact HC1.out)).mono ?_); rintro e w' ⟨rfl, rfl⟩) | ((with_reducible refine gate_dst (N := 67) rfl ?_); (try (refine gate_guard (by rfl) ?_; dsimp only)); refine Kd.N_lit k37 _ 37 ?hg (N' := 67) ?hd (xs := ([(⟨0, (y317.length : Int), x10_2⟩ : S37)] : List (S37))) (inner := [.int .i64 0, .int .i64 (y317.length : Int), .slice Ao24 x10_2.length co24]) (ok := (fun k_ => some k_ ≠ (v323 : Value).ownBlock)) (okp := (fun k_ => some k_ ≠ (v323 : Value).ownBlock)) ?hr ?hp (fun _ hk => hk) ((show ∀ k_, wr.heap.size ≤ k_ → (fun k_ => some k_ ≠ (v323 : Value).ownBlock) k_ from fun k_ hk => Kd.fresh' (Kd.N_lt (by (with_reducible repeat (first | apply Kd.N_alloc | apply Kd.N_drewN | apply Kd.N_drew)); exact HO_8.out)) k_ hk) _ (Nat.le_refl _)) (Below.refl _ _) (Nat.le_refl _) (by simp) ?_; (case hd => rfl); (case hg => rfl); (case hr => first | (go_simp; done) | (go_simp; rfl)); (case hp => exact (Reps.c3 (show Kd.FK k37 _ _ (⟨0, (y317.length : Int), x10_2⟩ : S37) [.int .i64 0, .int .i64 (y317.length : Int), .slice Ao24 x10_2.length co24] from (k37_mkF _ _ (⟨0, (y317.length : Int), x10_2⟩ : S37) (Kd.R_reads' (Kd.R_mono (ok' := (fun k_ => some k_ ≠ (v323 : Value).ownBlock)) (Kd.R_apart' (HO_10.out) (Kd.N_typed HO_8.out) (by decide)) (fun k_ hk => hk.2))).2.1 (Kd.R_F (Kd.R_mono (ok' := (fun k_ => some k_ ≠ (v323 : Value).ownBlock)) (Kd.R_apart' (HO_10.out) (Kd.N_typed HO_8.out) (by decide)) (fun k_ hk => hk.2))))) (Reps.none _ _))); intro v330 w25 ho26 hb hg_ hnew_; clear hg_ hnew_; (first | rw [← Ny329.out] at ho26 | (simp only [Int.reduceToNat] at ho26; rw [← Ny329.out] at ho26)); have n0_ := Aside0.mk (Kd.N_elder' (by (with_reducible repeat (first | apply Kd.N_alloc | apply Kd.N_drewN | apply Kd.N_drew)); exact HO_8.out) (by first | exact Kd.N_base ho26 | exact Kd.S_base ho26) hb); have n1_ := Aside0.mk (Kd.N_lower ho26 (below_size (by repeat (first | (with_reducible first | exact HB.out | apply below_alloc | apply pw_below_drewN | apply below_drew1) | exact HB.out)))); have n2_ := Aside0.mk (below_step (by repeat (first | (with_reducible first | exact HB.out | apply below_alloc | apply pw_below_drewN | apply below_drew1) | exact HB.out)) hb); clear HO_8; clear HB; clear HO_10; have HO_8 := n0_; have HO331 := n1_; have HB := n2_; clear n0_ n1_ n2_; clear hb ho26; obtain ⟨Ao27, co27, eo27⟩ := Kd.N_slice HO_8.out; subst eo27; obtain ⟨Ao28, co28, eo28⟩ := Kd.N_slice HO331.out; subst eo28) | (go_at_call 16; (with_reducible refine (partitaref26_Same.calls k2 _ _ t321 _ _ y329 t332 _ ?side1 ?side2 ?side3 ?side4 A23.out).mono ?_); (case side1 => repeat (first | exact (Kd.N_reads' HO_8.out).2.2 | (with_reducible refine Kd.C_alloc ?_ _) | (with_reducible refine Kd.C_drewN ?_ _) | (with_reducible refine Kd.C_drew ?_))); (case side2 => exact (Kd.N_reads' HO_8.out).2.1); (case side3 => repeat (first | exact (Kd.N_reads' HO331.out).2.2 | (with_reducible refine Kd.C_alloc ?_ _) | (with_reducible refine Kd.C_drewN ?_ _) | (with_reducible refine Kd.C_drew ?_))); (case side4 => exact (Kd.N_reads' HO331.out).2.1); rintro e w' ⟨rfl, ⟨nd, rfl⟩⟩))
                 go_ret
                 exact ⟨by first | rfl | (simp [errW_none, errW_some] <;> rfl) | (simp only [← hji5]; first | rfl | (simp [errW_none, errW_some] <;> rfl)) | (simp [*, errW_none, errW_some] <;> rfl), by repeat (first | (with_reducible first | exact HB.out | apply below_alloc | apply pw_below_drewN | apply below_drew1) | exact HB.out)⟩
             · replace c21 := Bool.eq_false_iff.mpr c21
               subst c21
               have H1 : none = some r := by rw [if_neg (show ¬ (false = true) by decide)] at H; exact H
               cases H1
   · rw [if_neg c7] at H
     exact absurd H (by simp)
 · rw [if_neg c6] at H
   exact absurd H (by simp)

end Go.Proofs.YtbpcilbplgbonaaDoor.Q
