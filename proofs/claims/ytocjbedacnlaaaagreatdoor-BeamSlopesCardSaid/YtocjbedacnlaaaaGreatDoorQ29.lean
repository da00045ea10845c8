-- Written by a program of this session (myprint.py), function by function.
import Derived.Test.YtocjbedacnlaaaaGreatDoorQ0
import Derived.Test.YtocjbedacnlaaaaGreatDoorQ7
import Derived.Test.YtocjbedacnlaaaaGreatDoorQ14
import Derived.Test.YtocjbedacnlaaaaGreatDoorQ16
import Derived.Test.YtocjbedacnlaaaaGreatDoorQ28
import Derived.Test.YtocjbedacnlaaaaGreatDoorHandA
namespace Go.Proofs.YtocjbedacnlaaaaGreatDoor.Q
open Go.RowKit Go.Proofs.YtocjbedacnlaaaaGreatDoorW.PrintWords Go.Proofs.YtocjbedacnlaaaaGreatDoorW.PrintLast Go.Proofs.YtocjbedacnlaaaaGreatDoorW.PrintMore
attribute [local go_sem] max2_int min2_int max_two min_two max_three min_three max_four min_four   -- for this text's walks alone
set_option linter.unusedVariables false
set_option linter.unusedSimpArgs false

/-! ### partitalaw23_BeamSlopes: function 6 -/
def partitalaw23_BeamSlopes.f (k : Nat) (l0 : List Int) (a1 : Bool) : Option (Bool) := (partitalaw23_shown.f k).bind fun t523 => ((beam_Slope.f k l0 a1).bind fun bt524 => ((partitaref23_Slope.f k l0 a1).bind fun bt528 => (if t523 = true then ((partitaref23_Ints.f k bt524.1 bt528.1).bind fun t532 => (if t532 = true then (some (bt524.2 == bt528.2)) else none)) else none)))
theorem partitalaw23_BeamSlopes.mono : ∀ a0 a1 k, LeO (partitalaw23_BeamSlopes.f k a0 a1) (partitalaw23_BeamSlopes.f (k + 1) a0 a1) := by
 intro a0 a1 k
 unfold partitalaw23_BeamSlopes.f
 repeat' first
  | (with_reducible exact beam_Slope.mono _ _ _)
  | (with_reducible exact partitalaw23_shown.mono _)
  | (with_reducible exact partitaref23_Ints.mono _ _ _)
  | (with_reducible exact partitaref23_Slope.mono _ _ _)
  | (with_reducible exact LeO.refl _)
  | (with_reducible exact LeO.none _)
  | (with_reducible refine LeO.ite ?_ ?_)
  | (with_reducible refine LeO.bind ?_ (fun _ => ?_))
  | exact beam_Slope.mono _ _ _
  | exact partitalaw23_shown.mono _
  | exact partitaref23_Ints.mono _ _ _
  | exact partitaref23_Slope.mono _ _ _
  | exact LeO.none _
  | refine LeO.ite ?_ ?_
  | refine LeO.bind ?_ (fun _ => ?_)
set_option maxHeartbeats 8000000 in
set_option maxRecDepth 100000 in
theorem partitalaw23_BeamSlopes.calls (k : Nat) (A0 : Option Addr) (c0 : Nat) (l0 : List Int) (a1 : Bool) (r : Bool) (w : World) (hr0 : Kd.C (Kd.int .i64) w A0 l0.length l0) (hc0 : l0.length ≤ c0) (h : partitalaw23_BeamSlopes.f k l0 a1 = some r) (SENTS : Aside0 (SentsE w) := by exact sents_step (by assumption) (by repeat (first | (with_reducible first | exact (by assumption : Aside0 (Below _ _ _)).out | apply below_alloc | apply pw_below_drewN | apply below_drew1 | refine below_set ?_ (Aside0.out (by assumption)))))) :
 Calls Tryz.prog 6 #[.slice A0 l0.length c0, .bool a1] w fun e w' => e = .returned (.bool r) ∧ Below w.heap.size w w' := by
 have HR0 := Aside0.mk hr0
 have HC0 := Aside0.mk hc0
 clear hr0 hc0
 have HB := Aside0.mk (Below.refl w.heap.size w)
 have H : ((partitalaw23_shown.f k).bind fun t523 => ((beam_Slope.f k l0 a1).bind fun bt524 => ((partitaref23_Slope.f k l0 a1).bind fun bt528 => (if t523 = true then ((partitaref23_Ints.f k bt524.1 bt528.1).bind fun t532 => (if t532 = true then (some (bt524.2 == bt528.2)) else none)) else none)))) = some r := h
 clear h
 replace H := Option.bind_eq_some_iff.mp H
 obtain ⟨t523, A30, H⟩ := H
 replace H : ((beam_Slope.f k l0 a1).bind fun bt524 => ((partitaref23_Slope.f k l0 a1).bind fun bt528 => (if t523 = true then ((partitaref23_Ints.f k bt524.1 bt528.1).bind fun t532 => (if t532 = true then (some (bt524.2 == bt528.2)) else none)) else none))) = some r := H
 have A3 := Aside0.mk A30
 clear A30
 replace H := Option.bind_eq_some_iff.mp H
 obtain ⟨⟨t524, t525⟩, A40, H⟩ := H
 replace H : ((partitaref23_Slope.f k l0 a1).bind fun bt528 => (if t523 = true then ((partitaref23_Ints.f k t524 bt528.1).bind fun t532 => (if t532 = true then (some (t525 == bt528.2)) else none)) else none)) = some r := H
 have A4 := Aside0.mk A40
 clear A40
 replace H := Option.bind_eq_some_iff.mp H
 obtain ⟨⟨t528, t529⟩, A50, H⟩ := H
 replace H : (if t523 = true then ((partitaref23_Ints.f k t524 t528).bind fun t532 => (if t532 = true then (some (t525 == t529)) else none)) else none) = some r := H
 have A5 := Aside0.mk A50
 clear A50
 by_cases c6 : t523 = true
 · subst c6
   have H1 : ((partitaref23_Ints.f k t524 t528).bind fun t532 => (if t532 = true then (some (t525 == t529)) else none)) = some r := by rw [if_pos rfl] at H; exact H
   clear H
   have H := H1
   clear H1
   replace H := Option.bind_eq_some_iff.mp H
   obtain ⟨t532, A70, H⟩ := H
   replace H : (if t532 = true then (some (t525 == t529)) else none) = some r := H
   have A7 := Aside0.mk A70
   clear A70
   by_cases c8 : t532 = true
   · subst c8
     have H1 : (some (t525 == t529)) = some r := by rw [if_pos rfl] at H; exact H
     clear H
     have H := H1
     clear H1
     obtain rfl := Option.some.inj H
     go_enter Tryz.func6, Tryz.ntmps6
     go_wp2_with (first | ((with_reducible refine gate_callee (f := 11) rfl ?_); refine goesL_ (some 10) rfl rfl Tryz.func11 (by kernel_rfl) rfl #[] rfl (by (try simp only [List.map_toArray, List.map_cons, List.map_nil]); first | done | rfl | (simp only [List.length_drop, List.length_take]; rfl)) ?_; (with_reducible refine (partitalaw23_shown.calls k  true _ A3.out).mono ?_); rintro e w9 ⟨rfl, hb⟩; refine ⟨_, rfl, ?_⟩; have n0_ := Aside0.mk (below_step (by repeat (first | (with_reducible first | exact HB.out | apply below_alloc | apply pw_below_drewN | apply below_drew1) | exact HB.out)) hb); clear HB; have HB := n0_; clear n0_; (try clear hb); (try clear hb2); (try clear hk); (try clear hi)) | ((with_reducible refine gate_callee (f := 12) rfl ?_); refine goesL_ (some 14) rfl rfl Tryz.func12 (by kernel_rfl) rfl #[.slice A0 l0.length c0, .bool a1] rfl (by (try simp only [List.map_toArray, List.map_cons, List.map_nil]); first | done | rfl | (simp only [List.length_drop, List.length_take]; rfl)) ?_; (with_reducible refine (beam_Slope.calls k _ _ l0 a1 t524 t525 _ ?side1 ?side2 A4.out).mono ?_); (case side1 => repeat (first | exact (Kd.C_below HR0.out HB.out) | (with_reducible refine Kd.C_alloc ?_ _) | (with_reducible refine Kd.C_drewN ?_ _) | (with_reducible refine Kd.C_drew ?_))); (case side2 => exact HC0.out); rintro e w10 ⟨v526, rfl, ho0, hb⟩; refine ⟨_, rfl, ?_⟩; have n0_ := Aside0.mk (Kd.R_lower ho0 (below_size (by repeat (first | (with_reducible first | exact HB.out | apply below_alloc | apply pw_below_drewN | apply below_drew1) | exact HB.out)))); have n1_ := Aside0.mk (below_step (by repeat (first | (with_reducible first | exact HB.out | apply below_alloc | apply pw_below_drewN | apply below_drew1) | exact HB.out)) hb); clear HB; have HO527 := n0_; have HB := n1_; clear n0_ n1_; (try clear hb); (try clear hb2); (try clear hk); (try clear hi); (try clear ho0)) | ((with_reducible refine gate_callee (f := 16) rfl ?_); refine goesL_ (some 20) rfl rfl Tryz.func16 (by kernel_rfl) rfl #[.slice A0 l0.length c0, .bool a1] rfl (by (try simp only [List.map_toArray, List.map_cons, List.map_nil]); first | done | rfl | (simp only [List.length_drop, List.length_take]; rfl)) ?_; (with_reducible refine (partitaref23_Slope.calls k _ _ l0 a1 t528 t529 _ ?side1 ?side2 A5.out).mono ?_); (case side1 => repeat (first | exact (Kd.C_below HR0.out HB.out) | (with_reducible refine Kd.C_alloc ?_ _) | (with_reducible refine Kd.C_drewN ?_ _) | (with_reducible refine Kd.C_drew ?_))); (case side2 => exact HC0.out); rintro e w11 ⟨v530, rfl, ho0, hb⟩; refine ⟨_, rfl, ?_⟩; have n0_ := Aside0.mk (Kd.R_elder' (qR HO527.out) (Kd.R_base ho0) hb); have n1_ := Aside0.mk (Kd.R_lower (Kd.R_new' ho0 (Kd.R_lt (qR HO527.out))) (below_size (by repeat (first | (with_reducible first | exact HB.out | apply below_alloc | apply pw_below_drewN | apply below_drew1) | exact HB.out)))); have n2_ := Aside0.mk (below_step (by repeat (first | (with_reducible first | exact HB.out | apply below_alloc | apply pw_below_drewN | apply below_drew1) | exact HB.out)) hb); clear HO527; clear HB; have HO527 := n0_; have HO531 := n1_; have HB := n2_; clear n0_ n1_ n2_; (try clear hb); (try clear hb2); (try clear hk); (try clear hi); (try clear ho0); obtain ⟨Ao12, co12, eo12⟩ := Kd.R_slice HO527.out; subst eo12; obtain ⟨Ao13, co13, eo13⟩ := Kd.R_slice HO531.out; subst eo13) | (go_at_call 17; (with_reducible refine (partitaref23_Ints.calls k _ _ t524 _ _ t528 true _ ?side1 ?side2 ?side3 ?side4 A7.out).mono ?_); (case side1 => repeat (first | exact (Kd.R_reads' HO527.out).2.2 | (with_reducible refine Kd.C_alloc ?_ _) | (with_reducible refine Kd.C_drewN ?_ _) | (with_reducible refine Kd.C_drew ?_))); (case side2 => exact (Kd.R_reads' HO527.out).2.1); (case side3 => repeat (first | exact (Kd.R_reads' HO531.out).2.2 | (with_reducible refine Kd.C_alloc ?_ _) | (with_reducible refine Kd.C_drewN ?_ _) | (with_reducible refine Kd.C_drew ?_))); (case side4 => exact (Kd.R_reads' HO531.out).2.1); rintro e w' ⟨rfl, ⟨nd, rfl⟩⟩))
     go_ret
     exact ⟨by first | rfl | (simp [errW_none, errW_some] <;> rfl) | (simp [*, errW_none, errW_some] <;> rfl), by repeat (first | (with_reducible first | exact HB.out | apply below_alloc | apply pw_below_drewN | apply below_drew1) | exact HB.out)⟩
   · replace c8 := Bool.eq_false_iff.mpr c8
     subst c8
     have H1 : none = some r := by rw [if_neg (show ¬ (false = true) by decide)] at H; exact H
     cases H1
 · replace c6 := Bool.eq_false_iff.mpr c6
   subst c6
   have H1 : none = some r := by rw [if_neg (show ¬ (false = true) by decide)] at H; exact H
   cases H1
end Go.Proofs.YtocjbedacnlaaaaGreatDoor.Q
