-- Written by a program of this session (myprint.py), function by function.
import Derived.Test.YtllccnijipgncaaDoorQ0
import Derived.Test.YtllccnijipgncaaDoorQ4
import Derived.Test.YtllccnijipgncaaDoorQ5
import Derived.Test.YtllccnijipgncaaDoorQ6
import Derived.Test.YtllccnijipgncaaDoorQ11
import Derived.Test.YtllccnijipgncaaDoorQ17
namespace Go.Proofs.YtllccnijipgncaaDoor.Q
open Go.RowKit Go.Proofs.YtllccnijipgncaaDoorW.PrintWords Go.Proofs.YtllccnijipgncaaDoorW.PrintLast Go.Proofs.YtllccnijipgncaaDoorW.PrintMore
attribute [local go_sem] max2_int min2_int max_two min_two max_three min_three max_four min_four   -- for this text's walks alone
set_option linter.unusedVariables false
set_option linter.unusedSimpArgs false

/-! ### partitalaw18_LexAgain: function 7 -/
def partitalaw18_LexAgain.f (k : Nat) (a0 : ByteArray) : Option (Bool) := (partitalaw18_awake.f k).bind fun t274 => (if (a0.size : Int) > 300 then (some t274) else ((lex_Tokens.f k a0).bind fun bt275 => (if bt275.2.2 = 0 then ((lex_Print.f bt275.1).bind fun bt280 => ((lex_Tokens.f k bt280.1).bind fun bt282 => ((lex_Print.f bt282.1).bind fun bt287 => (if t274 = true then (if bt280.2 = 0 then (if bt282.2.2 = 0 then (if bt287.2 = 0 then ((partitaref18_Bare.f k bt275.1).bind fun t289 => ((partitaref18_Bare.f k bt282.1).bind fun t292 => ((partitaref18_Same.f k t289 t292).bind fun t295 => (if t295 = true then (some (bt280.1.toList == bt287.1.toList)) else none)))) else none) else none) else none) else none)))) else (if t274 = true then (some ((bt275.1.length : Int) == 0)) else none))))
theorem partitalaw18_LexAgain.mono : ∀ a0 k, LeO (partitalaw18_LexAgain.f k a0) (partitalaw18_LexAgain.f (k + 1) a0) := by
 intro a0 k
 unfold partitalaw18_LexAgain.f
 repeat' first
  | (with_reducible exact lex_Tokens.mono _ _)
  | (with_reducible exact partitalaw18_awake.mono _)
  | (with_reducible exact partitaref18_Bare.mono _ _)
  | (with_reducible exact partitaref18_Same.mono _ _ _)
  | (with_reducible exact LeO.refl _)
  | (with_reducible exact LeO.none _)
  | (with_reducible refine LeO.ite ?_ ?_)
  | (with_reducible refine LeO.bind ?_ (fun _ => ?_))
  | exact lex_Tokens.mono _ _
  | exact partitalaw18_awake.mono _
  | exact partitaref18_Bare.mono _ _
  | exact partitaref18_Same.mono _ _ _
  | exact LeO.none _
  | refine LeO.ite ?_ ?_
  | refine LeO.bind ?_ (fun _ => ?_)
set_option maxHeartbeats 8000000 in
set_option maxRecDepth 100000 in
theorem partitalaw18_LexAgain.calls (k : Nat) (a0 : ByteArray) (r : Bool) (w : World) (h : partitalaw18_LexAgain.f k a0 = some r) (TABS : Aside0 (TabsW w) := by exact tabs_step (by assumption) (by repeat (first | (with_reducible first | exact (by assumption : Aside0 (Below _ _ _)).out | apply below_alloc | apply pw_below_drewN | apply below_drew1)))) :
 Calls Tryd.prog 7 #[.string a0] w fun e w' => e = .returned (.bool r) ∧ Below w.heap.size w w' := by
 have HB := Aside0.mk (Below.refl w.heap.size w)
 have H : ((partitalaw18_awake.f k).bind fun t274 => (if (a0.size : Int) > 300 then (some t274) else ((lex_Tokens.f k a0).bind fun bt275 => (if bt275.2.2 = 0 then ((lex_Print.f bt275.1).bind fun bt280 => ((lex_Tokens.f k bt280.1).bind fun bt282 => ((lex_Print.f bt282.1).bind fun bt287 => (if t274 = true then (if bt280.2 = 0 then (if bt282.2.2 = 0 then (if bt287.2 = 0 then ((partitaref18_Bare.f k bt275.1).bind fun t289 => ((partitaref18_Bare.f k bt282.1).bind fun t292 => ((partitaref18_Same.f k t289 t292).bind fun t295 => (if t295 = true then (some (bt280.1.toList == bt287.1.toList)) else none)))) else none) else none) else none) else none)))) else (if t274 = true then (some ((bt275.1.length : Int) == 0)) else none))))) = some r := h
 clear h
 replace H := Option.bind_eq_some_iff.mp H
 obtain ⟨t274, A20, H⟩ := H
 replace H : (if (a0.size : Int) > 300 then (some t274) else ((lex_Tokens.f k a0).bind fun bt275 => (if bt275.2.2 = 0 then ((lex_Print.f bt275.1).bind fun bt280 => ((lex_Tokens.f k bt280.1).bind fun bt282 => ((lex_Print.f bt282.1).bind fun bt287 => (if t274 = true then (if bt280.2 = 0 then (if bt282.2.2 = 0 then (if bt287.2 = 0 then ((partitaref18_Bare.f k bt275.1).bind fun t289 => ((partitaref18_Bare.f k bt282.1).bind fun t292 => ((partitaref18_Same.f k t289 t292).bind fun t295 => (if t295 = true then (some (bt280.1.toList == bt287.1.toList)) else none)))) else none) else none) else none) else none)))) else (if t274 = true then (some ((bt275.1.length : Int) == 0)) else none)))) = some r := H
 have A2 := Aside0.mk A20
 clear A20
 by_cases c3 : (a0.size : Int) > 300
 · rw [if_pos c3] at H
   have c3b0 : decide (300 < (a0.size : Int)) = true := decide_eq_true c3
   have c3b1 : decide (300 < a0.size) = true := decide_eq_true (by omega)
   clear c3
   obtain rfl := Option.some.inj H
   go_enter Tryd.func7, Tryd.ntmps7
   go_wp2_with (first | ((with_reducible refine gate_callee (f := 12) rfl ?_); refine goesL_ (some 14) rfl rfl Tryd.func12 (by kernel_rfl) rfl #[] rfl (by (try simp only [List.map_toArray, List.map_cons, List.map_nil]); first | done | rfl | (simp only [List.length_drop, List.length_take]; rfl)) ?_; (with_reducible refine (partitalaw18_awake.calls k  t274 _ A2.out).mono ?_); rintro e w4 ⟨rfl, hb⟩; refine ⟨_, rfl, ?_⟩; have n0_ := Aside0.mk (below_step (by repeat (first | (with_reducible first | exact HB.out | apply below_alloc | apply pw_below_drewN | apply below_drew1) | exact HB.out)) hb); clear HB; have HB := n0_; clear n0_; (try clear hb); (try clear hb2); (try clear hk); (try clear hi)))
   go_ret
   exact ⟨by first | rfl | (simp [errW_none, errW_some] <;> rfl) | (simp [*, errW_none, errW_some] <;> rfl), by repeat (first | (with_reducible first | exact HB.out | apply below_alloc | apply pw_below_drewN | apply below_drew1) | exact HB.out)⟩
 · rw [if_neg c3] at H
   have c3b0 : decide (300 < (a0.size : Int)) = false := decide_eq_false c3
   have c3b1 : decide (300 < a0.size) = false := decide_eq_false (by omega)
   clear c3
   replace H := Option.bind_eq_some_iff.mp H
   obtain ⟨⟨t275, t276, t277⟩, A50, H⟩ := H
   replace H : (if t277 = 0 then ((lex_Print.f t275).bind fun bt280 => ((lex_Tokens.f k bt280.1).bind fun bt282 => ((lex_Print.f bt282.1).bind fun bt287 => (if t274 = true then (if bt280.2 = 0 then (if bt282.2.2 = 0 then (if bt287.2 = 0 then ((partitaref18_Bare.f k t275).bind fun t289 => ((partitaref18_Bare.f k bt282.1).bind fun t292 => ((partitaref18_Same.f k t289 t292).bind fun t295 => (if t295 = true then (some (bt280.1.toList == bt287.1.toList)) else none)))) else none) else none) else none) else none)))) else (if t274 = true then (some ((t275.length : Int) == 0)) else none)) = some r := H
   have A5 := Aside0.mk A50
   clear A50
   by_cases c6 : t277 = 0
   · rw [if_pos c6] at H
     have c6b0 : (t277 == 0) = true := beq_iff_eq.mpr c6
     have c6b1 : (t277 != 0) = false := bne_eq_false_iff_eq.mpr c6
     clear c6
     replace H := Option.bind_eq_some_iff.mp H
     obtain ⟨⟨t280, t281⟩, A70, H⟩ := H
     replace H : ((lex_Tokens.f k t280).bind fun bt282 => ((lex_Print.f bt282.1).bind fun bt287 => (if t274 = true then (if t281 = 0 then (if bt282.2.2 = 0 then (if bt287.2 = 0 then ((partitaref18_Bare.f k t275).bind fun t289 => ((partitaref18_Bare.f k bt282.1).bind fun t292 => ((partitaref18_Same.f k t289 t292).bind fun t295 => (if t295 = true then (some (t280.toList == bt287.1.toList)) else none)))) else none) else none) else none) else none))) = some r := H
     have A7 := Aside0.mk A70
     clear A70
     replace H := Option.bind_eq_some_iff.mp H
     obtain ⟨⟨t282, t283, t284⟩, A80, H⟩ := H
     replace H : ((lex_Print.f t282).bind fun bt287 => (if t274 = true then (if t281 = 0 then (if t284 = 0 then (if bt287.2 = 0 then ((partitaref18_Bare.f k t275).bind fun t289 => ((partitaref18_Bare.f k t282).bind fun t292 => ((partitaref18_Same.f k t289 t292).bind fun t295 => (if t295 = true then (some (t280.toList == bt287.1.toList)) else none)))) else none) else none) else none) else none)) = some r := H
     have A8 := Aside0.mk A80
     clear A80
     replace H := Option.bind_eq_some_iff.mp H
     obtain ⟨⟨t287, t288⟩, A90, H⟩ := H
     replace H : (if t274 = true then (if t281 = 0 then (if t284 = 0 then (if t288 = 0 then ((partitaref18_Bare.f k t275).bind fun t289 => ((partitaref18_Bare.f k t282).bind fun t292 => ((partitaref18_Same.f k t289 t292).bind fun t295 => (if t295 = true then (some (t280.toList == t287.toList)) else none)))) else none) else none) else none) else none) = some r := H
     have A9 := Aside0.mk A90
     clear A90
     by_cases c10 : t274 = true
     · subst c10
       have H1 : (if t281 = 0 then (if t284 = 0 then (if t288 = 0 then ((partitaref18_Bare.f k t275).bind fun t289 => ((partitaref18_Bare.f k t282).bind fun t292 => ((partitaref18_Same.f k t289 t292).bind fun t295 => (if t295 = true then (some (t280.toList == t287.toList)) else none)))) else none) else none) else none) = some r := by rw [if_pos rfl] at H; exact H
       clear H
       have H := H1
       clear H1
       by_cases c11 : t281 = 0
       · rw [if_pos c11] at H
         have c11b0 : (t281 == 0) = true := beq_iff_eq.mpr c11
         have c11b1 : (t281 != 0) = false := bne_eq_false_iff_eq.mpr c11
         clear c11
         by_cases c12 : t284 = 0
         · rw [if_pos c12] at H
           have c12b0 : (t284 == 0) = true := beq_iff_eq.mpr c12
           have c12b1 : (t284 != 0) = false := bne_eq_false_iff_eq.mpr c12
           clear c12
           by_cases c13 : t288 = 0
           · rw [if_pos c13] at H
             have c13b0 : (t288 == 0) = true := beq_iff_eq.mpr c13
             have c13b1 : (t288 != 0) = false := bne_eq_false_iff_eq.mpr c13
             clear c13
             replace H := Option.bind_eq_some_iff.mp H
             obtain ⟨t289, A140, H⟩ := H
             replace H : ((partitaref18_Bare.f k t282).bind fun t292 => ((partitaref18_Same.f k t289 t292).bind fun t295 => (if t295 = true then (some (t280.toList == t287.toList)) else none))) = some r := H
             have A14 := Aside0.mk A140
             clear A140
             replace H := Option.bind_eq_some_iff.mp H
             obtain ⟨t292, A150, H⟩ := H
             replace H : ((partitaref18_Same.f k t289 t292).bind fun t295 => (if t295 = true then (some (t280.toList == t287.toList)) else none)) = some r := H
             have A15 := Aside0.mk A150
             clear A150
             replace H := Option.bind_eq_some_iff.mp H
             obtain ⟨t295, A160, H⟩ := H
             replace H : (if t295 = true then (some (t280.toList == t287.toList)) else none) = some r := H
             have A16 := Aside0.mk A160
             clear A160
             by_cases c17 : t295 = true
             · subst c17
               have H1 : (some (t280.toList == t287.toList)) = some r := by rw [if_pos rfl] at H; exact H
               clear H
               have H := H1
               clear H1
               obtain rfl := Option.some.inj H
               go_enter Tryd.func7, Tryd.ntmps7
               go_wp2_with (first | ((with_reducible refine gate_callee (f := 12) rfl ?_); refine goesL_ (some 14) rfl rfl Tryd.func12 (by kernel_rfl) rfl #[] rfl (by (try simp only [List.map_toArray, List.map_cons, List.map_nil]); first | done | rfl | (simp only [List.length_drop, List.length_take]; rfl)) ?_; (with_reducible refine (partitalaw18_awake.calls k  true _ A2.out).mono ?_); rintro e w18 ⟨rfl, hb⟩; refine ⟨_, rfl, ?_⟩; have n0_ := Aside0.mk (below_step (by repeat (first | (with_reducible first | exact HB.out | apply below_alloc | apply pw_below_drewN | apply below_drew1) | exact HB.out)) hb); clear HB; have HB := n0_; clear n0_; (try clear hb); (try clear hb2); (try clear hk); (try clear hi)) | ((with_reducible refine gate_callee (f := 13) rfl ?_); refine goesL_ (some 21) rfl rfl Tryd.func13 (by kernel_rfl) rfl #[.string a0] rfl (by (try simp only [List.map_toArray, List.map_cons, List.map_nil]); first | done | rfl | (simp only [List.length_drop, List.length_take]; rfl)) ?_; (with_reducible refine (lex_Tokens.calls k a0 t275 t276 t277 _ A5.out).mono ?_); rintro e w19 ⟨v278, rfl, ho0, hb⟩; refine ⟨_, rfl, ?_⟩; have n0_ := Aside0.mk (Kd.R_lower ho0 (below_size (by repeat (first | (with_reducible first | exact HB.out | apply below_alloc | apply pw_below_drewN | apply below_drew1) | exact HB.out)))); have n1_ := Aside0.mk (below_step (by repeat (first | (with_reducible first | exact HB.out | apply below_alloc | apply pw_below_drewN | apply below_drew1) | exact HB.out)) hb); clear HB; have HO279 := n0_; have HB := n1_; clear n0_ n1_; (try clear hb); (try clear hb2); (try clear hk); (try clear hi); (try clear ho0); obtain ⟨Ao20, co20, eo20⟩ := Kd.R_slice HO279.out; subst eo20) | ((with_reducible refine gate_callee (f := 17) rfl ?_); refine goesL_ (some 35) rfl rfl Tryd.func17 (by kernel_rfl) rfl #[.slice Ao20 t275.length co20] rfl (by (try simp only [List.map_toArray, List.map_cons, List.map_nil]); first | done | rfl | (simp only [List.length_drop, List.length_take]; rfl)) ?_; (with_reducible refine (lex_Print.calls _ _ t275 t280 t281 _ ?side1 ?side2 A7.out).mono ?_); (case side1 => repeat (first | exact (Kd.R_reads' HO279.out).2.2 | (with_reducible refine Kd.C_alloc ?_ _) | (with_reducible refine Kd.C_drewN ?_ _) | (with_reducible refine Kd.C_drew ?_))); (case side2 => exact (Kd.R_reads' HO279.out).2.1); rintro e w21 ⟨rfl, hb⟩; refine ⟨_, rfl, ?_⟩; have n0_ := Aside0.mk (Kd.R_below (qR HO279.out) hb); have n1_ := Aside0.mk (below_step (by repeat (first | (with_reducible first | exact HB.out | apply below_alloc | apply pw_below_drewN | apply below_drew1) | exact HB.out)) hb); clear HO279; clear HB; have HO279 := n0_; have HB := n1_; clear n0_ n1_; (try clear hb); (try clear hb2); (try clear hk); (try clear hi)) | ((with_reducible refine gate_callee (f := 13) rfl ?_); refine goesL_ (some 40) rfl rfl Tryd.func13 (by kernel_rfl) rfl #[.string t280] rfl (by (try simp only [List.map_toArray, List.map_cons, List.map_nil]); first | done | rfl | (simp only [List.length_drop, List.length_take]; rfl)) ?_; (with_reducible refine (lex_Tokens.calls k t280 t282 t283 t284 _ A8.out).mono ?_); rintro e w22 ⟨v285, rfl, ho0, hb⟩; refine ⟨_, rfl, ?_⟩; have n0_ := Aside0.mk (Kd.R_elder' (qR HO279.out) (Kd.R_base ho0) hb); have n1_ := Aside0.mk (Kd.R_lower (Kd.R_new' ho0 (Kd.R_lt (qR HO279.out))) (below_size (by repeat (first | (with_reducible first | exact HB.out | apply below_alloc | apply pw_below_drewN | apply below_drew1) | exact HB.out)))); have n2_ := Aside0.mk (below_step (by repeat (first | (with_reducible first | exact HB.out | apply below_alloc | apply pw_below_drewN | apply below_drew1) | exact HB.out)) hb); clear HO279; clear HB; have HO279 := n0_; have HO286 := n1_; have HB := n2_; clear n0_ n1_ n2_; (try clear hb); (try clear hb2); (try clear hk); (try clear hi); (try clear ho0); obtain ⟨Ao23, co23, eo23⟩ := Kd.R_slice HO286.out; subst eo23) | ((with_reducible refine gate_callee (f := 17) rfl ?_); refine goesL_ (some 46) rfl rfl Tryd.func17 (by kernel_rfl) rfl #[.slice Ao23 t282.length co23] rfl (by (try simp only [List.map_toArray, List.map_cons, List.map_nil]); first | done | rfl | (simp only [List.length_drop, List.length_take]; rfl)) ?_; (with_reducible refine (lex_Print.calls _ _ t282 t287 t288 _ ?side1 ?side2 A9.out).mono ?_); (case side1 => repeat (first | exact (Kd.R_reads' HO286.out).2.2 | (with_reducible refine Kd.C_alloc ?_ _) | (with_reducible refine Kd.C_drewN ?_ _) | (with_reducible refine Kd.C_drew ?_))); (case side2 => exact (Kd.R_reads' HO286.out).2.1); rintro e w24 ⟨rfl, hb⟩; refine ⟨_, rfl, ?_⟩; have n0_ := Aside0.mk (Kd.R_below (qR HO279.out) hb); have n1_ := Aside0.mk (Kd.R_below (qR HO286.out) hb); have n2_ := Aside0.mk (below_step (by repeat (first | (with_reducible first | exact HB.out | apply below_alloc | apply pw_below_drewN | apply below_drew1) | exact HB.out)) hb); clear HO279; clear HO286; clear HB; have HO279 := n0_; have HO286 := n1_; have HB := n2_; clear n0_ n1_ n2_; (try clear hb); (try clear hb2); (try clear hk); (try clear hi)) | (go_at_call 21; (with_reducible refine (partitaref18_Bare.calls k _ _ t275 t289 _ ?side1 ?side2 A14.out).mono ?_); (case side1 => repeat (first | exact (Kd.R_reads' HO279.out).2.2 | (with_reducible refine Kd.C_alloc ?_ _) | (with_reducible refine Kd.C_drewN ?_ _) | (with_reducible refine Kd.C_drew ?_))); (case side2 => exact (Kd.R_reads' HO279.out).2.1); rintro e w25 ⟨v290, rfl, ho0, hb⟩; have n0_ := Aside0.mk (Kd.R_elder' (qR HO279.out) (Kd.R_base ho0) hb); have n1_ := Aside0.mk (Kd.R_elder' (qR HO286.out) (Kd.R_base ho0) hb); have n2_ := Aside0.mk (Kd.R_lower (Kd.R_new' (Kd.R_new' ho0 (Kd.R_lt (qR HO279.out))) (Kd.R_lt (qR HO286.out))) (below_size (by repeat (first | (with_reducible first | exact HB.out | apply below_alloc | apply pw_below_drewN | apply below_drew1) | exact HB.out)))); have n3_ := Aside0.mk (below_step (by repeat (first | (with_reducible first | exact HB.out | apply below_alloc | apply pw_below_drewN | apply below_drew1) | exact HB.out)) hb); clear HO279; clear HO286; clear HB; have HO279 := n0_; have HO286 := n1_; have HO291 := n2_; have HB := n3_; clear n0_ n1_ n2_ n3_; (try clear hb); (try clear hb2); (try clear hk); (try clear hi); (try clear ho0)) | (go_at_call 21; (with_reducible refine (partitaref18_Bare.calls k _ _ t282 t292 _ ?side1 ?side2 A15.out).mono ?_); (case side1 => repeat (first | exact (Kd.R_reads' HO286.out).2.2 | (with_reducible refine Kd.C_alloc ?_ _) | (with_reducible refine Kd.C_drewN ?_ _) | (with_reducible refine Kd.C_drew ?_))); (case side2 => exact (Kd.R_reads' HO286.out).2.1); rintro e w26 ⟨v293, rfl, ho0, hb⟩; have n0_ := Aside0.mk (Kd.R_elder' (qR HO279.out) (Kd.R_base ho0) hb); have n1_ := Aside0.mk (Kd.R_elder' (qR HO286.out) (Kd.R_base ho0) hb); have n2_ := Aside0.mk (Kd.R_elder' (qR HO291.out) (Kd.R_base ho0) hb); have n3_ := Aside0.mk (Kd.R_lower (Kd.R_new' (Kd.R_new' (Kd.R_new' ho0 (Kd.R_lt (qR HO279.out))) (Kd.R_lt (qR HO286.out))) (Kd.R_lt (qR HO291.out))) (below_size (by repeat (first | (with_reducible first | exact HB.out | apply below_alloc | apply pw_below_drewN | apply below_drew1) | exact HB.out)))); have n4_ := Aside0.mk (below_step (by repeat (first | (with_reducible first | exact HB.out | apply below_alloc | apply pw_below_drewN | apply below_drew1) | exact HB.out)) hb); clear HO279; clear HO286; clear HO291; clear HB; have HO279 := n0_; have HO286 := n1_; have HO291 := n2_; have HO294 := n3_; have HB := n4_; clear n0_ n1_ n2_ n3_ n4_; (try clear hb); (try clear hb2); (try clear hk); (try clear hi); (try clear ho0); obtain ⟨Ao27, co27, eo27⟩ := Kd.R_slice HO291.out; subst eo27; obtain ⟨Ao28, co28, eo28⟩ := Kd.R_slice HO294.out; subst eo28) | (go_at_call 15; (with_reducible refine (partitaref18_Same.calls k _ _ t289 _ _ t292 true _ ?side1 ?side2 ?side3 ?side4 A16.out).mono ?_); (case side1 => repeat (first | exact (Kd.R_reads' HO291.out).2.2 | (with_reducible refine Kd.C_alloc ?_ _) | (with_reducible refine Kd.C_drewN ?_ _) | (with_reducible refine Kd.C_drew ?_))); (case side2 => exact (Kd.R_reads' HO291.out).2.1); (case side3 => repeat (first | exact (Kd.R_reads' HO294.out).2.2 | (with_reducible refine Kd.C_alloc ?_ _) | (with_reducible refine Kd.C_drewN ?_ _) | (with_reducible refine Kd.C_drew ?_))); (case side4 => exact (Kd.R_reads' HO294.out).2.1); rintro e w' ⟨rfl, ⟨nd, rfl⟩⟩))
               go_ret
               exact ⟨by first | rfl | (simp [errW_none, errW_some] <;> rfl) | (simp [*, errW_none, errW_some] <;> rfl), by repeat (first | (with_reducible first | exact HB.out | apply below_alloc | apply pw_below_drewN | apply below_drew1) | exact HB.out)⟩
             · replace c17 := Bool.eq_false_iff.mpr c17
               subst c17
               have H1 : none = some r := by rw [if_neg (show ¬ (false = true) by decide)] at H; exact H
               cases H1
           · rw [if_neg c13] at H
             cases H
         · rw [if_neg c12] at H
           cases H
       · rw [if_neg c11] at H
         cases H
     · replace c10 := Bool.eq_false_iff.mpr c10
       subst c10
       have H1 : none = some r := by rw [if_neg (show ¬ (false = true) by decide)] at H; exact H
       cases H1
   · rw [if_neg c6] at H
     have c6b0 : (t277 == 0) = false := beq_eq_false_iff_ne.mpr c6
     have c6b1 : (t277 != 0) = true := bne_iff_ne.mpr c6
     by_cases c68 : t274 = true
     · subst c68
       have H1 : (some ((t275.length : Int) == 0)) = some r := by rw [if_pos rfl] at H; exact H
       clear H
       have H := H1
       clear H1
       obtain rfl := Option.some.inj H
       go_enter Tryd.func7, Tryd.ntmps7
       go_wp2_with (first | ((with_reducible refine gate_callee (f := 12) rfl ?_); refine goesL_ (some 14) rfl rfl Tryd.func12 (by kernel_rfl) rfl #[] rfl (by (try simp only [List.map_toArray, List.map_cons, List.map_nil]); first | done | rfl | (simp only [List.length_drop, List.length_take]; rfl)) ?_; (with_reducible refine (partitalaw18_awake.calls k  true _ A2.out).mono ?_); rintro e w69 ⟨rfl, hb⟩; refine ⟨_, rfl, ?_⟩; have n0_ := Aside0.mk (below_step (by repeat (first | (with_reducible first | exact HB.out | apply below_alloc | apply pw_below_drewN | apply below_drew1) | exact HB.out)) hb); clear HB; have HB := n0_; clear n0_; (try clear hb); (try clear hb2); (try clear hk); (try clear hi)) | ((with_reducible refine gate_callee (f := 13) rfl ?_); refine goesL_ (some 21) rfl rfl Tryd.func13 (by kernel_rfl) rfl #[.string a0] rfl (by (try simp only [List.map_toArray, List.map_cons, List.map_nil]); first | done | rfl | (simp only [List.length_drop, List.length_take]; rfl)) ?_; (with_reducible refine (lex_Tokens.calls k a0 t275 t276 t277 _ A5.out).mono ?_); rintro e w70 ⟨v278, rfl, ho0, hb⟩; refine ⟨_, rfl, ?_⟩; have n0_ := Aside0.mk (Kd.R_lower ho0 (below_size (by repeat (first | (with_reducible first | exact HB.out | apply below_alloc | apply pw_below_drewN | apply below_drew1) | exact HB.out)))); have n1_ := Aside0.mk (below_step (by repeat (first | (with_reducible first | exact HB.out | apply below_alloc | apply pw_below_drewN | apply below_drew1) | exact HB.out)) hb); clear HB; have HO279 := n0_; have HB := n1_; clear n0_ n1_; (try clear hb); (try clear hb2); (try clear hk); (try clear hi); (try clear ho0); obtain ⟨Ao71, co71, eo71⟩ := Kd.R_slice HO279.out; subst eo71))
       go_ret
       exact ⟨by first | rfl | (simp [errW_none, errW_some] <;> rfl) | (simp [*, errW_none, errW_some] <;> rfl), by repeat (first | (with_reducible first | exact HB.out | apply below_alloc | apply pw_below_drewN | apply below_drew1) | exact HB.out)⟩
     · replace c68 := Bool.eq_false_iff.mpr c68
       subst c68
       have H1 : none = some r := by rw [if_neg (show ¬ (false = true) by decide)] at H; exact H
       cases H1
end Go.Proofs.YtllccnijipgncaaDoor.Q
