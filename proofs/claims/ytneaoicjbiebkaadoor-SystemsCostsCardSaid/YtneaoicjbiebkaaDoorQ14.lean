-- Written by a program of this session (myprint.py), function by function.
import Derived.Test.YtneaoicjbiebkaaDoorQ0
import Derived.Test.YtneaoicjbiebkaaDoorQ2
import Derived.Test.YtneaoicjbiebkaaDoorQ4
import Derived.Test.YtneaoicjbiebkaaDoorFew
namespace Go.Proofs.YtneaoicjbiebkaaDoor.Q
open Go.RowKit Go.Proofs.YtneaoicjbiebkaaDoorW.PrintWords Go.Proofs.YtneaoicjbiebkaaDoorW.PrintLast Go.Proofs.YtneaoicjbiebkaaDoorW.PrintMore
attribute [local go_sem] max2_int min2_int max_two min_two max_three min_three max_four min_four   -- for this text's walks alone
set_option linter.unusedVariables false
set_option linter.unusedSimpArgs false

/-! ### partitalaw25_SystemsCosts: function 9 -/
def partitalaw25_SystemsCosts.f (k : Nat) (a0 : Int) (a1 : Int) (a2 : Int) : Option (Bool) := (partitalaw25_shown.f k).bind fun t351 => ((systems_Cost.f k a0 a1 a2).bind fun bt352 => (if bt352.2 = true then ((systems_Cost.f k a0 a1 (wrap64 (a2 + 1))).bind fun bt354 => ((systems_Cost.f k a0 (wrap64 (a1 - 1)) a2).bind fun bt356 => ((systems_Cost.f k a2 a1 a2).bind fun bt358 => (if t351 = true then (if bt352.1 ≥ 0 then (if bt352.1 ≤ 10000 then (if bt354.2 = true then (if bt354.1 ≥ bt352.1 then (if bt356.2 = true then (if bt356.1 ≥ bt352.1 then (if bt358.2 = true then (some (bt358.1 == 0)) else none) else none) else (if bt358.2 = true then (some (bt358.1 == 0)) else none)) else none) else (if bt356.2 = true then (if bt356.1 ≥ bt352.1 then (if bt358.2 = true then (some (bt358.1 == 0)) else none) else none) else (if bt358.2 = true then (some (bt358.1 == 0)) else none))) else none) else none) else none)))) else (if t351 = true then (some (bt352.1 == 0)) else none)))
theorem partitalaw25_SystemsCosts.mono : ∀ a0 a1 a2 k, LeO (partitalaw25_SystemsCosts.f k a0 a1 a2) (partitalaw25_SystemsCosts.f (k + 1) a0 a1 a2) := by
 intro a0 a1 a2 k
 unfold partitalaw25_SystemsCosts.f
 repeat' first
  | (with_reducible exact partitalaw25_shown.mono _)
  | (with_reducible exact systems_Cost.mono _ _ _ _)
  | (with_reducible exact LeO.refl _)
  | (with_reducible exact LeO.none _)
  | (with_reducible refine LeO.ite ?_ ?_)
  | (with_reducible refine LeO.bind ?_ (fun _ => ?_))
  | exact partitalaw25_shown.mono _
  | exact systems_Cost.mono _ _ _ _
  | exact LeO.none _
  | refine LeO.ite ?_ ?_
  | refine LeO.bind ?_ (fun _ => ?_)
set_option maxHeartbeats 8000000 in
set_option maxRecDepth 100000 in
theorem partitalaw25_SystemsCosts.calls (k : Nat) (a0 : Int) (a1 : Int) (a2 : Int) (r : Bool) (w : World) (h : partitalaw25_SystemsCosts.f k a0 a1 a2 = some r) (SENTS : Aside0 (SentsE w) := by exact sents_step (by assumption) (by repeat (first | (with_reducible first | exact (by assumption : Aside0 (Below _ _ _)).out | apply below_alloc | apply pw_below_drewN | apply below_drew1)))) :
 Calls Tryd.prog 9 #[.int .i64 a0, .int .i64 a1, .int .i64 a2] w fun e w' => e = .returned (.bool r) ∧ Below w.heap.size w w' := by
 have HB := Aside0.mk (Below.refl w.heap.size w)
 have H : ((partitalaw25_shown.f k).bind fun t351 => ((systems_Cost.f k a0 a1 a2).bind fun bt352 => (if bt352.2 = true then ((systems_Cost.f k a0 a1 (wrap64 (a2 + 1))).bind fun bt354 => ((systems_Cost.f k a0 (wrap64 (a1 - 1)) a2).bind fun bt356 => ((systems_Cost.f k a2 a1 a2).bind fun bt358 => (if t351 = true then (if bt352.1 ≥ 0 then (if bt352.1 ≤ 10000 then (if bt354.2 = true then (if bt354.1 ≥ bt352.1 then (if bt356.2 = true then (if bt356.1 ≥ bt352.1 then (if bt358.2 = true then (some (bt358.1 == 0)) else none) else none) else (if bt358.2 = true then (some (bt358.1 == 0)) else none)) else none) else (if bt356.2 = true then (if bt356.1 ≥ bt352.1 then (if bt358.2 = true then (some (bt358.1 == 0)) else none) else none) else (if bt358.2 = true then (some (bt358.1 == 0)) else none))) else none) else none) else none)))) else (if t351 = true then (some (bt352.1 == 0)) else none)))) = some r := h
 clear h
 replace H := Option.bind_eq_some_iff.mp H
 obtain ⟨t351, A40, H⟩ := H
 replace H : ((systems_Cost.f k a0 a1 a2).bind fun bt352 => (if bt352.2 = true then ((systems_Cost.f k a0 a1 (wrap64 (a2 + 1))).bind fun bt354 => ((systems_Cost.f k a0 (wrap64 (a1 - 1)) a2).bind fun bt356 => ((systems_Cost.f k a2 a1 a2).bind fun bt358 => (if t351 = true then (if bt352.1 ≥ 0 then (if bt352.1 ≤ 10000 then (if bt354.2 = true then (if bt354.1 ≥ bt352.1 then (if bt356.2 = true then (if bt356.1 ≥ bt352.1 then (if bt358.2 = true then (some (bt358.1 == 0)) else none) else none) else (if bt358.2 = true then (some (bt358.1 == 0)) else none)) else none) else (if bt356.2 = true then (if bt356.1 ≥ bt352.1 then (if bt358.2 = true then (some (bt358.1 == 0)) else none) else none) else (if bt358.2 = true then (some (bt358.1 == 0)) else none))) else none) else none) else none)))) else (if t351 = true then (some (bt352.1 == 0)) else none))) = some r := H
 have A4 := Aside0.mk A40
 clear A40
 replace H := Option.bind_eq_some_iff.mp H
 obtain ⟨⟨t352, t353⟩, A50, H⟩ := H
 replace H : (if t353 = true then ((systems_Cost.f k a0 a1 (wrap64 (a2 + 1))).bind fun bt354 => ((systems_Cost.f k a0 (wrap64 (a1 - 1)) a2).bind fun bt356 => ((systems_Cost.f k a2 a1 a2).bind fun bt358 => (if t351 = true then (if t352 ≥ 0 then (if t352 ≤ 10000 then (if bt354.2 = true then (if bt354.1 ≥ t352 then (if bt356.2 = true then (if bt356.1 ≥ t352 then (if bt358.2 = true then (some (bt358.1 == 0)) else none) else none) else (if bt358.2 = true then (some (bt358.1 == 0)) else none)) else none) else (if bt356.2 = true then (if bt356.1 ≥ t352 then (if bt358.2 = true then (some (bt358.1 == 0)) else none) else none) else (if bt358.2 = true then (some (bt358.1 == 0)) else none))) else none) else none) else none)))) else (if t351 = true then (some (t352 == 0)) else none)) = some r := H
 have A5 := Aside0.mk A50
 clear A50
 by_cases c6 : t353 = true
 · subst c6
   have H1 : ((systems_Cost.f k a0 a1 (wrap64 (a2 + 1))).bind fun bt354 => ((systems_Cost.f k a0 (wrap64 (a1 - 1)) a2).bind fun bt356 => ((systems_Cost.f k a2 a1 a2).bind fun bt358 => (if t351 = true then (if t352 ≥ 0 then (if t352 ≤ 10000 then (if bt354.2 = true then (if bt354.1 ≥ t352 then (if bt356.2 = true then (if bt356.1 ≥ t352 then (if bt358.2 = true then (some (bt358.1 == 0)) else none) else none) else (if bt358.2 = true then (some (bt358.1 == 0)) else none)) else none) else (if bt356.2 = true then (if bt356.1 ≥ t352 then (if bt358.2 = true then (some (bt358.1 == 0)) else none) else none) else (if bt358.2 = true then (some (bt358.1 == 0)) else none))) else none) else none) else none)))) = some r := by rw [if_pos rfl] at H; exact H
   clear H
   have H := H1
   clear H1
   replace H := Option.bind_eq_some_iff.mp H
   obtain ⟨⟨t354, t355⟩, A70, H⟩ := H
   replace H : ((systems_Cost.f k a0 (wrap64 (a1 - 1)) a2).bind fun bt356 => ((systems_Cost.f k a2 a1 a2).bind fun bt358 => (if t351 = true then (if t352 ≥ 0 then (if t352 ≤ 10000 then (if t355 = true then (if t354 ≥ t352 then (if bt356.2 = true then (if bt356.1 ≥ t352 then (if bt358.2 = true then (some (bt358.1 == 0)) else none) else none) else (if bt358.2 = true then (some (bt358.1 == 0)) else none)) else none) else (if bt356.2 = true then (if bt356.1 ≥ t352 then (if bt358.2 = true then (some (bt358.1 == 0)) else none) else none) else (if bt358.2 = true then (some (bt358.1 == 0)) else none))) else none) else none) else none))) = some r := H
   have A7 := Aside0.mk A70
   clear A70
   replace H := Option.bind_eq_some_iff.mp H
   obtain ⟨⟨t356, t357⟩, A80, H⟩ := H
   replace H : ((systems_Cost.f k a2 a1 a2).bind fun bt358 => (if t351 = true then (if t352 ≥ 0 then (if t352 ≤ 10000 then (if t355 = true then (if t354 ≥ t352 then (if t357 = true then (if t356 ≥ t352 then (if bt358.2 = true then (some (bt358.1 == 0)) else none) else none) else (if bt358.2 = true then (some (bt358.1 == 0)) else none)) else none) else (if t357 = true then (if t356 ≥ t352 then (if bt358.2 = true then (some (bt358.1 == 0)) else none) else none) else (if bt358.2 = true then (some (bt358.1 == 0)) else none))) else none) else none) else none)) = some r := H
   have A8 := Aside0.mk A80
   clear A80
   replace H := Option.bind_eq_some_iff.mp H
   obtain ⟨⟨t358, t359⟩, A90, H⟩ := H
   replace H : (if t351 = true then (if t352 ≥ 0 then (if t352 ≤ 10000 then (if t355 = true then (if t354 ≥ t352 then (if t357 = true then (if t356 ≥ t352 then (if t359 = true then (some (t358 == 0)) else none) else none) else (if t359 = true then (some (t358 == 0)) else none)) else none) else (if t357 = true then (if t356 ≥ t352 then (if t359 = true then (some (t358 == 0)) else none) else none) else (if t359 = true then (some (t358 == 0)) else none))) else none) else none) else none) = some r := H
   have A9 := Aside0.mk A90
   clear A90
   by_cases c10 : t351 = true
   · subst c10
     have H1 : (if t352 ≥ 0 then (if t352 ≤ 10000 then (if t355 = true then (if t354 ≥ t352 then (if t357 = true then (if t356 ≥ t352 then (if t359 = true then (some (t358 == 0)) else none) else none) else (if t359 = true then (some (t358 == 0)) else none)) else none) else (if t357 = true then (if t356 ≥ t352 then (if t359 = true then (some (t358 == 0)) else none) else none) else (if t359 = true then (some (t358 == 0)) else none))) else none) else none) = some r := by rw [if_pos rfl] at H; exact H
     clear H
     have H := H1
     clear H1
     by_cases c11 : t352 ≥ 0
     · rw [if_pos c11] at H
       have c11b0 : decide (0 ≤ t352) = true := decide_eq_true c11
       clear c11
       by_cases c12 : t352 ≤ 10000
       · rw [if_pos c12] at H
         have c12b0 : decide (t352 ≤ 10000) = true := decide_eq_true c12
         clear c12
         by_cases c13 : t355 = true
         · subst c13
           have H1 : (if t354 ≥ t352 then (if t357 = true then (if t356 ≥ t352 then (if t359 = true then (some (t358 == 0)) else none) else none) else (if t359 = true then (some (t358 == 0)) else none)) else none) = some r := by rw [if_pos rfl] at H; exact H
           clear H
           have H := H1
           clear H1
           by_cases c14 : t354 ≥ t352
           · rw [if_pos c14] at H
             have c14b0 : decide (t352 ≤ t354) = true := decide_eq_true c14
             clear c14
             by_cases c15 : t357 = true
             · subst c15
               have H1 : (if t356 ≥ t352 then (if t359 = true then (some (t358 == 0)) else none) else none) = some r := by rw [if_pos rfl] at H; exact H
               clear H
               have H := H1
               clear H1
               by_cases c16 : t356 ≥ t352
               · rw [if_pos c16] at H
                 have c16b0 : decide (t352 ≤ t356) = true := decide_eq_true c16
                 clear c16
                 by_cases c17 : t359 = true
                 · subst c17
                   have H1 : (some (t358 == 0)) = some r := by rw [if_pos rfl] at H; exact H
                   clear H
                   have H := H1
                   clear H1
                   obtain rfl := Option.some.inj H
                   go_enter Tryd.func9, Tryd.ntmps9
                   go_wp2_with (first | (go_at_call 11; (with_reducible refine (Few_cut _ _ _ _ _ _ (by assumption) (by assumption) (by first | exact HC0.out | exact HC1.out)).mono ?_); rintro e w' ⟨rfl, rfl⟩) | ((with_reducible refine gate_callee (f := 10) rfl ?_); refine goesL_ (some 16) rfl rfl Tryd.func10 (by kernel_rfl) rfl #[] rfl (by (try simp only [List.map_toArray, List.map_cons, List.map_nil]); first | done | rfl | (simp only [List.length_drop, List.length_take]; rfl)) ?_; (with_reducible refine (partitalaw25_shown.calls k  true _ A4.out).mono ?_); rintro e w18 ⟨rfl, hb⟩; refine ⟨_, rfl, ?_⟩; have n0_ := Aside0.mk (below_step (by repeat (first | (with_reducible first | exact HB.out | apply below_alloc | apply pw_below_drewN | apply below_drew1) | exact HB.out)) hb); clear HB; have HB := n0_; clear n0_; (try clear hb); (try clear hb2); (try clear hk); (try clear hi)) | ((with_reducible refine gate_callee (f := 12) rfl ?_); refine goesL_ (some 21) rfl rfl Tryd.func12 (by kernel_rfl) rfl #[.int .i64 a0, .int .i64 a1, .int .i64 a2] rfl (by (try simp only [List.map_toArray, List.map_cons, List.map_nil]); first | done | rfl | (simp only [List.length_drop, List.length_take]; rfl)) ?_; (with_reducible refine (systems_Cost.calls k a0 a1 a2 t352 true _ A5.out).mono ?_); rintro e w19 ⟨rfl, hb⟩; refine ⟨_, rfl, ?_⟩; have n0_ := Aside0.mk (below_step (by repeat (first | (with_reducible first | exact HB.out | apply below_alloc | apply pw_below_drewN | apply below_drew1) | exact HB.out)) hb); clear HB; have HB := n0_; clear n0_; (try clear hb); (try clear hb2); (try clear hk); (try clear hi)) | ((with_reducible refine gate_callee (f := 12) rfl ?_); refine goesL_ (some 36) rfl rfl Tryd.func12 (by kernel_rfl) rfl #[.int .i64 a0, .int .i64 a1, .int .i64 (wrap64 (a2 + 1))] rfl (by (try simp only [List.map_toArray, List.map_cons, List.map_nil]); first | done | rfl | (simp only [List.length_drop, List.length_take]; rfl)) ?_; (with_reducible refine (systems_Cost.calls k a0 a1 (wrap64 (a2 + 1)) t354 true _ A7.out).mono ?_); rintro e w20 ⟨rfl, hb⟩; refine ⟨_, rfl, ?_⟩; have n0_ := Aside0.mk (below_step (by repeat (first | (with_reducible first | exact HB.out | apply below_alloc | apply pw_below_drewN | apply below_drew1) | exact HB.out)) hb); clear HB; have HB := n0_; clear n0_; (try clear hb); (try clear hb2); (try clear hk); (try clear hi)) | ((with_reducible refine gate_callee (f := 12) rfl ?_); refine goesL_ (some 44) rfl rfl Tryd.func12 (by kernel_rfl) rfl #[.int .i64 a0, .int .i64 (wrap64 (a1 - 1)), .int .i64 a2] rfl (by (try simp only [List.map_toArray, List.map_cons, List.map_nil]); first | done | rfl | (simp only [List.length_drop, List.length_take]; rfl)) ?_; (with_reducible refine (systems_Cost.calls k a0 (wrap64 (a1 - 1)) a2 t356 true _ A8.out).mono ?_); rintro e w21 ⟨rfl, hb⟩; refine ⟨_, rfl, ?_⟩; have n0_ := Aside0.mk (below_step (by repeat (first | (with_reducible first | exact HB.out | apply below_alloc | apply pw_below_drewN | apply below_drew1) | exact HB.out)) hb); clear HB; have HB := n0_; clear n0_; (try clear hb); (try clear hb2); (try clear hk); (try clear hi)) | ((with_reducible refine gate_callee (f := 12) rfl ?_); refine goesL_ (some 51) rfl rfl Tryd.func12 (by kernel_rfl) rfl #[.int .i64 a2, .int .i64 a1, .int .i64 a2] rfl (by (try simp only [List.map_toArray, List.map_cons, List.map_nil]); first | done | rfl | (simp only [List.length_drop, List.length_take]; rfl)) ?_; (with_reducible refine (systems_Cost.calls k a2 a1 a2 t358 true _ A9.out).mono ?_); rintro e w22 ⟨rfl, hb⟩; refine ⟨_, rfl, ?_⟩; have n0_ := Aside0.mk (below_step (by repeat (first | (with_reducible first | exact HB.out | apply below_alloc | apply pw_below_drewN | apply below_drew1) | exact HB.out)) hb); clear HB; have HB := n0_; clear n0_; (try clear hb); (try clear hb2); (try clear hk); (try clear hi)))
                   go_ret
                   exact ⟨by first | rfl | (simp [errW_none, errW_some] <;> rfl) | (simp [*, errW_none, errW_some] <;> rfl), by repeat (first | (with_reducible first | exact HB.out | apply below_alloc | apply pw_below_drewN | apply below_drew1) | exact HB.out)⟩
                 · replace c17 := Bool.eq_false_iff.mpr c17
                   subst c17
                   have H1 : none = some r := by rw [if_neg (show ¬ (false = true) by decide)] at H; exact H
                   cases H1
               · rw [if_neg c16] at H
                 cases H
             · replace c15 := Bool.eq_false_iff.mpr c15
               subst c15
               have H1 : (if t359 = true then (some (t358 == 0)) else none) = some r := by rw [if_neg (show ¬ (false = true) by decide)] at H; exact H
               clear H
               have H := H1
               clear H1
               by_cases c33 : t359 = true
               · subst c33
                 have H1 : (some (t358 == 0)) = some r := by rw [if_pos rfl] at H; exact H
                 clear H
                 have H := H1
                 clear H1
                 obtain rfl := Option.some.inj H
                 go_enter Tryd.func9, Tryd.ntmps9
                 go_wp2_with (first | (go_at_call 11; (with_reducible refine (Few_cut _ _ _ _ _ _ (by assumption) (by assumption) (by first | exact HC0.out | exact HC1.out)).mono ?_); rintro e w' ⟨rfl, rfl⟩) | ((with_reducible refine gate_callee (f := 10) rfl ?_); refine goesL_ (some 16) rfl rfl Tryd.func10 (by kernel_rfl) rfl #[] rfl (by (try simp only [List.map_toArray, List.map_cons, List.map_nil]); first | done | rfl | (simp only [List.length_drop, List.length_take]; rfl)) ?_; (with_reducible refine (partitalaw25_shown.calls k  true _ A4.out).mono ?_); rintro e w34 ⟨rfl, hb⟩; refine ⟨_, rfl, ?_⟩; have n0_ := Aside0.mk (below_step (by repeat (first | (with_reducible first | exact HB.out | apply below_alloc | apply pw_below_drewN | apply below_drew1) | exact HB.out)) hb); clear HB; have HB := n0_; clear n0_; (try clear hb); (try clear hb2); (try clear hk); (try clear hi)) | ((with_reducible refine gate_callee (f := 12) rfl ?_); refine goesL_ (some 21) rfl rfl Tryd.func12 (by kernel_rfl) rfl #[.int .i64 a0, .int .i64 a1, .int .i64 a2] rfl (by (try simp only [List.map_toArray, List.map_cons, List.map_nil]); first | done | rfl | (simp only [List.length_drop, List.length_take]; rfl)) ?_; (with_reducible refine (systems_Cost.calls k a0 a1 a2 t352 true _ A5.out).mono ?_); rintro e w35 ⟨rfl, hb⟩; refine ⟨_, rfl, ?_⟩; have n0_ := Aside0.mk (below_step (by repeat (first | (with_reducible first | exact HB.out | apply below_alloc | apply pw_below_drewN | apply below_drew1) | exact HB.out)) hb); clear HB; have HB := n0_; clear n0_; (try clear hb); (try clear hb2); (try clear hk); (try clear hi)) | ((with_reducible refine gate_callee (f := 12) rfl ?_); refine goesL_ (some 36) rfl rfl Tryd.func12 (by kernel_rfl) rfl #[.int .i64 a0, .int .i64 a1, .int .i64 (wrap64 (a2 + 1))] rfl (by (try simp only [List.map_toArray, List.map_cons, List.map_nil]); first | done | rfl | (simp only [List.length_drop, List.length_take]; rfl)) ?_; (with_reducible refine (systems_Cost.calls k a0 a1 (wrap64 (a2 + 1)) t354 true _ A7.out).mono ?_); rintro e w36 ⟨rfl, hb⟩; refine ⟨_, rfl, ?_⟩; have n0_ := Aside0.mk (below_step (by repeat (first | (with_reducible first | exact HB.out | apply below_alloc | apply pw_below_drewN | apply below_drew1) | exact HB.out)) hb); clear HB; have HB := n0_; clear n0_; (try clear hb); (try clear hb2); (try clear hk); (try clear hi)) | ((with_reducible refine gate_callee (f := 12) rfl ?_); refine goesL_ (some 44) rfl rfl Tryd.func12 (by kernel_rfl) rfl #[.int .i64 a0, .int .i64 (wrap64 (a1 - 1)), .int .i64 a2] rfl (by (try simp only [List.map_toArray, List.map_cons, List.map_nil]); first | done | rfl | (simp only [List.length_drop, List.length_take]; rfl)) ?_; (with_reducible refine (systems_Cost.calls k a0 (wrap64 (a1 - 1)) a2 t356 false _ A8.out).mono ?_); rintro e w37 ⟨rfl, hb⟩; refine ⟨_, rfl, ?_⟩; have n0_ := Aside0.mk (below_step (by repeat (first | (with_reducible first | exact HB.out | apply below_alloc | apply pw_below_drewN | apply below_drew1) | exact HB.out)) hb); clear HB; have HB := n0_; clear n0_; (try clear hb); (try clear hb2); (try clear hk); (try clear hi)) | ((with_reducible refine gate_callee (f := 12) rfl ?_); refine goesL_ (some 51) rfl rfl Tryd.func12 (by kernel_rfl) rfl #[.int .i64 a2, .int .i64 a1, .int .i64 a2] rfl (by (try simp only [List.map_toArray, List.map_cons, List.map_nil]); first | done | rfl | (simp only [List.length_drop, List.length_take]; rfl)) ?_; (with_reducible refine (systems_Cost.calls k a2 a1 a2 t358 true _ A9.out).mono ?_); rintro e w38 ⟨rfl, hb⟩; refine ⟨_, rfl, ?_⟩; have n0_ := Aside0.mk (below_step (by repeat (first | (with_reducible first | exact HB.out | apply below_alloc | apply pw_below_drewN | apply below_drew1) | exact HB.out)) hb); clear HB; have HB := n0_; clear n0_; (try clear hb); (try clear hb2); (try clear hk); (try clear hi)))
                 go_ret
                 exact ⟨by first | rfl | (simp [errW_none, errW_some] <;> rfl) | (simp [*, errW_none, errW_some] <;> rfl), by repeat (first | (with_reducible first | exact HB.out | apply below_alloc | apply pw_below_drewN | apply below_drew1) | exact HB.out)⟩
               · replace c33 := Bool.eq_false_iff.mpr c33
                 subst c33
                 have H1 : none = some r := by rw [if_neg (show ¬ (false = true) by decide)] at H; exact H
                 cases H1
           · rw [if_neg c14] at H
             cases H
         · replace c13 := Bool.eq_false_iff.mpr c13
           subst c13
           have H1 : (if t357 = true then (if t356 ≥ t352 then (if t359 = true then (some (t358 == 0)) else none) else none) else (if t359 = true then (some (t358 == 0)) else none)) = some r := by rw [if_neg (show ¬ (false = true) by decide)] at H; exact H
           clear H
           have H := H1
           clear H1
           by_cases c49 : t357 = true
           · subst c49
             have H1 : (if t356 ≥ t352 then (if t359 = true then (some (t358 == 0)) else none) else none) = some r := by rw [if_pos rfl] at H; exact H
             clear H
             have H := H1
             clear H1
             by_cases c50 : t356 ≥ t352
             · rw [if_pos c50] at H
               have c50b0 : decide (t352 ≤ t356) = true := decide_eq_true c50
               clear c50
               by_cases c51 : t359 = true
               · subst c51
                 have H1 : (some (t358 == 0)) = some r := by rw [if_pos rfl] at H; exact H
                 clear H
                 have H := H1
                 clear H1
                 obtain rfl := Option.some.inj H
                 go_enter Tryd.func9, Tryd.ntmps9
                 go_wp2_with (first | (go_at_call 11; (with_reducible refine (Few_cut _ _ _ _ _ _ (by assumption) (by assumption) (by first | exact HC0.out | exact HC1.out)).mono ?_); rintro e w' ⟨rfl, rfl⟩) | ((with_reducible refine gate_callee (f := 10) rfl ?_); refine goesL_ (some 16) rfl rfl Tryd.func10 (by kernel_rfl) rfl #[] rfl (by (try simp only [List.map_toArray, List.map_cons, List.map_nil]); first | done | rfl | (simp only [List.length_drop, List.length_take]; rfl)) ?_; (with_reducible refine (partitalaw25_shown.calls k  true _ A4.out).mono ?_); rintro e w52 ⟨rfl, hb⟩; refine ⟨_, rfl, ?_⟩; have n0_ := Aside0.mk (below_step (by repeat (first | (with_reducible first | exact HB.out | apply below_alloc | apply pw_below_drewN | apply below_drew1) | exact HB.out)) hb); clear HB; have HB := n0_; clear n0_; (try clear hb); (try clear hb2); (try clear hk); (try clear hi)) | ((with_reducible refine gate_callee (f := 12) rfl ?_); refine goesL_ (some 21) rfl rfl Tryd.func12 (by kernel_rfl) rfl #[.int .i64 a0, .int .i64 a1, .int .i64 a2] rfl (by (try simp only [List.map_toArray, List.map_cons, List.map_nil]); first | done | rfl | (simp only [List.length_drop, List.length_take]; rfl)) ?_; (with_reducible refine (systems_Cost.calls k a0 a1 a2 t352 true _ A5.out).mono ?_); rintro e w53 ⟨rfl, hb⟩; refine ⟨_, rfl, ?_⟩; have n0_ := Aside0.mk (below_step (by repeat (first | (with_reducible first | exact HB.out | apply below_alloc | apply pw_below_drewN | apply below_drew1) | exact HB.out)) hb); clear HB; have HB := n0_; clear n0_; (try clear hb); (try clear hb2); (try clear hk); (try clear hi)) | ((with_reducible refine gate_callee (f := 12) rfl ?_); refine goesL_ (some 36) rfl rfl Tryd.func12 (by kernel_rfl) rfl #[.int .i64 a0, .int .i64 a1, .int .i64 (wrap64 (a2 + 1))] rfl (by (try simp only [List.map_toArray, List.map_cons, List.map_nil]); first | done | rfl | (simp only [List.length_drop, List.length_take]; rfl)) ?_; (with_reducible refine (systems_Cost.calls k a0 a1 (wrap64 (a2 + 1)) t354 false _ A7.out).mono ?_); rintro e w54 ⟨rfl, hb⟩; refine ⟨_, rfl, ?_⟩; have n0_ := Aside0.mk (below_step (by repeat (first | (with_reducible first | exact HB.out | apply below_alloc | apply pw_below_drewN | apply below_drew1) | exact HB.out)) hb); clear HB; have HB := n0_; clear n0_; (try clear hb); (try clear hb2); (try clear hk); (try clear hi)) | ((with_reducible refine gate_callee (f := 12) rfl ?_); refine goesL_ (some 44) rfl rfl Tryd.func12 (by kernel_rfl) rfl #[.int .i64 a0, .int .i64 (wrap64 (a1 - 1)), .int .i64 a2] rfl (by (try simp only [List.map_toArray, List.map_cons, List.map_nil]); first | done | rfl | (simp only [List.length_drop, List.length_take]; rfl)) ?_; (with_reducible refine (systems_Cost.calls k a0 (wrap64 (a1 - 1)) a2 t356 true _ A8.out).mono ?_); rintro e w55 ⟨rfl, hb⟩; refine ⟨_, rfl, ?_⟩; have n0_ := Aside0.mk (below_step (by repeat (first | (with_reducible first | exact HB.out | apply below_alloc | apply pw_below_drewN | apply below_drew1) | exact HB.out)) hb); clear HB; have HB := n0_; clear n0_; (try clear hb); (try clear hb2); (try clear hk); (try clear hi)) | ((with_reducible refine gate_callee (f := 12) rfl ?_); refine goesL_ (some 51) rfl rfl Tryd.func12 (by kernel_rfl) rfl #[.int .i64 a2, .int .i64 a1, .int .i64 a2] rfl (by (try simp only [List.map_toArray, List.map_cons, List.map_nil]); first | done | rfl | (simp only [List.length_drop, List.length_take]; rfl)) ?_; (with_reducible refine (systems_Cost.calls k a2 a1 a2 t358 true _ A9.out).mono ?_); rintro e w56 ⟨rfl, hb⟩; refine ⟨_, rfl, ?_⟩; have n0_ := Aside0.mk (below_step (by repeat (first | (with_reducible first | exact HB.out | apply below_alloc | apply pw_below_drewN | apply below_drew1) | exact HB.out)) hb); clear HB; have HB := n0_; clear n0_; (try clear hb); (try clear hb2); (try clear hk); (try clear hi)))
                 go_ret
                 exact ⟨by first | rfl | (simp [errW_none, errW_some] <;> rfl) | (simp [*, errW_none, errW_some] <;> rfl), by repeat (first | (with_reducible first | exact HB.out | apply below_alloc | apply pw_below_drewN | apply below_drew1) | exact HB.out)⟩
               · replace c51 := Bool.eq_false_iff.mpr c51
                 subst c51
                 have H1 : none = some r := by rw [if_neg (show ¬ (false = true) by decide)] at H; exact H
                 cases H1
             · rw [if_neg c50] at H
               cases H
           · replace c49 := Bool.eq_false_iff.mpr c49
             subst c49
             have H1 : (if t359 = true then (some (t358 == 0)) else none) = some r := by rw [if_neg (show ¬ (false = true) by decide)] at H; exact H
             clear H
             have H := H1
             clear H1
             by_cases c67 : t359 = true
             · subst c67
               have H1 : (some (t358 == 0)) = some r := by rw [if_pos rfl] at H; exact H
               clear H
               have H := H1
               clear H1
               obtain rfl := Option.some.inj H
               go_enter Tryd.func9, Tryd.ntmps9
               go_wp2_with (first | (go_at_call 11; (with_reducible refine (Few_cut _ _ _ _ _ _ (by assumption) (by assumption) (by first | exact HC0.out | exact HC1.out)).mono ?_); rintro e w' ⟨rfl, rfl⟩) | ((with_reducible refine gate_callee (f := 10) rfl ?_); refine goesL_ (some 16) rfl rfl Tryd.func10 (by kernel_rfl) rfl #[] rfl (by (try simp only [List.map_toArray, List.map_cons, List.map_nil]); first | done | rfl | (simp only [List.length_drop, List.length_take]; rfl)) ?_; (with_reducible refine (partitalaw25_shown.calls k  true _ A4.out).mono ?_); rintro e w68 ⟨rfl, hb⟩; refine ⟨_, rfl, ?_⟩; have n0_ := Aside0.mk (below_step (by repeat (first | (with_reducible first | exact HB.out | apply below_alloc | apply pw_below_drewN | apply below_drew1) | exact HB.out)) hb); clear HB; have HB := n0_; clear n0_; (try clear hb); (try clear hb2); (try clear hk); (try clear hi)) | ((with_reducible refine gate_callee (f := 12) rfl ?_); refine goesL_ (some 21) rfl rfl Tryd.func12 (by kernel_rfl) rfl #[.int .i64 a0, .int .i64 a1, .int .i64 a2] rfl (by (try simp only [List.map_toArray, List.map_cons, List.map_nil]); first | done | rfl | (simp only [List.length_drop, List.length_take]; rfl)) ?_; (with_reducible refine (systems_Cost.calls k a0 a1 a2 t352 true _ A5.out).mono ?_); rintro e w69 ⟨rfl, hb⟩; refine ⟨_, rfl, ?_⟩; have n0_ := Aside0.mk (below_step (by repeat (first | (with_reducible first | exact HB.out | apply below_alloc | apply pw_below_drewN | apply below_drew1) | exact HB.out)) hb); clear HB; have HB := n0_; clear n0_; (try clear hb); (try clear hb2); (try clear hk); (try clear hi)) | ((with_reducible refine gate_callee (f := 12) rfl ?_); refine goesL_ (some 36) rfl rfl Tryd.func12 (by kernel_rfl) rfl #[.int .i64 a0, .int .i64 a1, .int .i64 (wrap64 (a2 + 1))] rfl (by (try simp only [List.map_toArray, List.map_cons, List.map_nil]); first | done | rfl | (simp only [List.length_drop, List.length_take]; rfl)) ?_; (with_reducible refine (systems_Cost.calls k a0 a1 (wrap64 (a2 + 1)) t354 false _ A7.out).mono ?_); rintro e w70 ⟨rfl, hb⟩; refine ⟨_, rfl, ?_⟩; have n0_ := Aside0.mk (below_step (by repeat (first | (with_reducible first | exact HB.out | apply below_alloc | apply pw_below_drewN | apply below_drew1) | exact HB.out)) hb); clear HB; have HB := n0_; clear n0_; (try clear hb); (try clear hb2); (try clear hk); (try clear hi)) | ((with_reducible refine gate_callee (f := 12) rfl ?_); refine goesL_ (some 44) rfl rfl Tryd.func12 (by kernel_rfl) rfl #[.int .i64 a0, .int .i64 (wrap64 (a1 - 1)), .int .i64 a2] rfl (by (try simp only [List.map_toArray, List.map_cons, List.map_nil]); first | done | rfl | (simp only [List.length_drop, List.length_take]; rfl)) ?_; (with_reducible refine (systems_Cost.calls k a0 (wrap64 (a1 - 1)) a2 t356 false _ A8.out).mono ?_); rintro e w71 ⟨rfl, hb⟩; refine ⟨_, rfl, ?_⟩; have n0_ := Aside0.mk (below_step (by repeat (first | (with_reducible first | exact HB.out | apply below_alloc | apply pw_below_drewN | apply below_drew1) | exact HB.out)) hb); clear HB; have HB := n0_; clear n0_; (try clear hb); (try clear hb2); (try clear hk); (try clear hi)) | ((with_reducible refine gate_callee (f := 12) rfl ?_); refine goesL_ (some 51) rfl rfl Tryd.func12 (by kernel_rfl) rfl #[.int .i64 a2, .int .i64 a1, .int .i64 a2] rfl (by (try simp only [List.map_toArray, List.map_cons, List.map_nil]); first | done | rfl | (simp only [List.length_drop, List.length_take]; rfl)) ?_; (with_reducible refine (systems_Cost.calls k a2 a1 a2 t358 true _ A9.out).mono ?_); rintro e w72 ⟨rfl, hb⟩; refine ⟨_, rfl, ?_⟩; have n0_ := Aside0.mk (below_step (by repeat (first | (with_reducible first | exact HB.out | apply below_alloc | apply pw_below_drewN | apply below_drew1) | exact HB.out)) hb); clear HB; have HB := n0_; clear n0_; (try clear hb); (try clear hb2); (try clear hk); (try clear hi)))
               go_ret
               exact ⟨by first | rfl | (simp [errW_none, errW_some] <;> rfl) | (simp [*, errW_none, errW_some] <;> rfl), by repeat (first | (with_reducible first | exact HB.out | apply below_alloc | apply pw_below_drewN | apply below_drew1) | exact HB.out)⟩
             · replace c67 := Bool.eq_false_iff.mpr c67
               subst c67
               have H1 : none = some r := by rw [if_neg (show ¬ (false = true) by decide)] at H; exact H
               cases H1
       · rw [if_neg c12] at H
         cases H
     · rw [if_neg c11] at H
       cases H
   · replace c10 := Bool.eq_false_iff.mpr c10
     subst c10
     have H1 : none = some r := by rw [if_neg (show ¬ (false = true) by decide)] at H; exact H
     cases H1
 · replace c6 := Bool.eq_false_iff.mpr c6
   subst c6
   have H1 : (if t351 = true then (some (t352 == 0)) else none) = some r := by rw [if_neg (show ¬ (false = true) by decide)] at H; exact H
   clear H
   have H := H1
   clear H1
   by_cases c93 : t351 = true
   · subst c93
     have H1 : (some (t352 == 0)) = some r := by rw [if_pos rfl] at H; exact H
     clear H
     have H := H1
     clear H1
     obtain rfl := Option.some.inj H
     go_enter Tryd.func9, Tryd.ntmps9
     go_wp2_with (first | (go_at_call 11; (with_reducible refine (Few_cut _ _ _ _ _ _ (by assumption) (by assumption) (by first | exact HC0.out | exact HC1.out)).mono ?_); rintro e w' ⟨rfl, rfl⟩) | ((with_reducible refine gate_callee (f := 10) rfl ?_); refine goesL_ (some 16) rfl rfl Tryd.func10 (by kernel_rfl) rfl #[] rfl (by (try simp only [List.map_toArray, List.map_cons, List.map_nil]); first | done | rfl | (simp only [List.length_drop, List.length_take]; rfl)) ?_; (with_reducible refine (partitalaw25_shown.calls k  true _ A4.out).mono ?_); rintro e w94 ⟨rfl, hb⟩; refine ⟨_, rfl, ?_⟩; have n0_ := Aside0.mk (below_step (by repeat (first | (with_reducible first | exact HB.out | apply below_alloc | apply pw_below_drewN | apply below_drew1) | exact HB.out)) hb); clear HB; have HB := n0_; clear n0_; (try clear hb); (try clear hb2); (try clear hk); (try clear hi)) | ((with_reducible refine gate_callee (f := 12) rfl ?_); refine goesL_ (some 21) rfl rfl Tryd.func12 (by kernel_rfl) rfl #[.int .i64 a0, .int .i64 a1, .int .i64 a2] rfl (by (try simp only [List.map_toArray, List.map_cons, List.map_nil]); first | done | rfl | (simp only [List.length_drop, List.length_take]; rfl)) ?_; (with_reducible refine (systems_Cost.calls k a0 a1 a2 t352 false _ A5.out).mono ?_); rintro e w95 ⟨rfl, hb⟩; refine ⟨_, rfl, ?_⟩; have n0_ := Aside0.mk (below_step (by repeat (first | (with_reducible first | exact HB.out | apply below_alloc | apply pw_below_drewN | apply below_drew1) | exact HB.out)) hb); clear HB; have HB := n0_; clear n0_; (try clear hb); (try clear hb2); (try clear hk); (try clear hi)))
     go_ret
     exact ⟨by first | rfl | (simp [errW_none, errW_some] <;> rfl) | (simp [*, errW_none, errW_some] <;> rfl), by repeat (first | (with_reducible first | exact HB.out | apply below_alloc | apply pw_below_drewN | apply below_drew1) | exact HB.out)⟩
   · replace c93 := Bool.eq_false_iff.mpr c93
     subst c93
     have H1 : none = some r := by rw [if_neg (show ¬ (false = true) by decide)] at H; exact H
     cases H1
end Go.Proofs.YtneaoicjbiebkaaDoor.Q
