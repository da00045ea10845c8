-- Written by a program of this session (myprint.py), function by function.
import Derived.Test.YtllccnijipgncaaDoorQ0
import Derived.Test.YtllccnijipgncaaDoorQ4
import Derived.Test.YtllccnijipgncaaDoorQ5
import Derived.Test.YtllccnijipgncaaDoorQ6
import Derived.Test.YtllccnijipgncaaDoorQ11
import Derived.Test.YtllccnijipgncaaDoorQ13
import Derived.Test.YtllccnijipgncaaDoorQ17
namespace Go.Proofs.YtllccnijipgncaaDoor.Q
open Go.RowKit Go.Proofs.YtllccnijipgncaaDoorW.PrintWords Go.Proofs.YtllccnijipgncaaDoorW.PrintLast Go.Proofs.YtllccnijipgncaaDoorW.PrintMore
attribute [local go_sem] max2_int min2_int max_two min_two max_three min_three max_four min_four   -- for this text's walks alone
set_option linter.unusedVariables false
set_option linter.unusedSimpArgs false

/-! ### partitalaw18_LexBack: function 6 -/
def partitalaw18_LexBack.f (k : Nat) (l0 : List (S35)) : Option (Bool) := (partitalaw18_awake.f k).bind fun t258 => ((partitaref18_Few.f k l0).bind fun t259 => (if t259 = true then ((lex_Print.f l0).bind fun bt260 => ((lex_Tokens.f k bt260.1).bind fun bt262 => (if bt260.2 = 0 then (if t258 = true then (if bt262.2.1 = 0 then (if bt262.2.2 = 0 then ((partitaref18_Bare.f k bt262.1).bind fun t267 => ((partitaref18_Bare.f k l0).bind fun t270 => ((partitaref18_Same.f k t267 t270).bind fun t273 => (some t273)))) else none) else none) else none) else (if t258 = true then (if bt260.1.toList = ([] : List UInt8) then (some ((bt262.1.length : Int) == 0)) else none) else none)))) else (some t258)))
theorem partitalaw18_LexBack.mono : ∀ a0 k, LeO (partitalaw18_LexBack.f k a0) (partitalaw18_LexBack.f (k + 1) a0) := by
 intro a0 k
 unfold partitalaw18_LexBack.f
 repeat' first
  | (with_reducible exact lex_Tokens.mono _ _)
  | (with_reducible exact partitalaw18_awake.mono _)
  | (with_reducible exact partitaref18_Bare.mono _ _)
  | (with_reducible exact partitaref18_Few.mono _ _)
  | (with_reducible exact partitaref18_Same.mono _ _ _)
  | (with_reducible exact LeO.refl _)
  | (with_reducible exact LeO.none _)
  | (with_reducible refine LeO.ite ?_ ?_)
  | (with_reducible refine LeO.bind ?_ (fun _ => ?_))
  | exact lex_Tokens.mono _ _
  | exact partitalaw18_awake.mono _
  | exact partitaref18_Bare.mono _ _
  | exact partitaref18_Few.mono _ _
  | exact partitaref18_Same.mono _ _ _
  | exact LeO.none _
  | refine LeO.ite ?_ ?_
  | refine LeO.bind ?_ (fun _ => ?_)
set_option maxHeartbeats 8000000 in
set_option maxRecDepth 100000 in
theorem partitalaw18_LexBack.calls (k : Nat) (A0 : Option Addr) (c0 : Nat) (l0 : List (S35)) (r : Bool) (w : World) (hr0 : Kd.C k35 w A0 l0.length l0) (hc0 : l0.length ≤ c0) (h : partitalaw18_LexBack.f k l0 = some r) (TABS : Aside0 (TabsW w) := by exact tabs_step (by assumption) (by repeat (first | (with_reducible first | exact (by assumption : Aside0 (Below _ _ _)).out | apply below_alloc | apply pw_below_drewN | apply below_drew1)))) :
 Calls Tryd.prog 6 #[.slice A0 l0.length c0] w fun e w' => e = .returned (.bool r) ∧ Below w.heap.size w w' := by
 have HR0 := Aside0.mk hr0
 have HC0 := Aside0.mk hc0
 clear hr0 hc0
 have HB := Aside0.mk (Below.refl w.heap.size w)
 have H : ((partitalaw18_awake.f k).bind fun t258 => ((partitaref18_Few.f k l0).bind fun t259 => (if t259 = true then ((lex_Print.f l0).bind fun bt260 => ((lex_Tokens.f k bt260.1).bind fun bt262 => (if bt260.2 = 0 then (if t258 = true then (if bt262.2.1 = 0 then (if bt262.2.2 = 0 then ((partitaref18_Bare.f k bt262.1).bind fun t267 => ((partitaref18_Bare.f k l0).bind fun t270 => ((partitaref18_Same.f k t267 t270).bind fun t273 => (some t273)))) else none) else none) else none) else (if t258 = true then (if bt260.1.toList = ([] : List UInt8) then (some ((bt262.1.length : Int) == 0)) else none) else none)))) else (some t258)))) = some r := h
 clear h
 replace H := Option.bind_eq_some_iff.mp H
 obtain ⟨t258, A20, H⟩ := H
 replace H : ((partitaref18_Few.f k l0).bind fun t259 => (if t259 = true then ((lex_Print.f l0).bind fun bt260 => ((lex_Tokens.f k bt260.1).bind fun bt262 => (if bt260.2 = 0 then (if t258 = true then (if bt262.2.1 = 0 then (if bt262.2.2 = 0 then ((partitaref18_Bare.f k bt262.1).bind fun t267 => ((partitaref18_Bare.f k l0).bind fun t270 => ((partitaref18_Same.f k t267 t270).bind fun t273 => (some t273)))) else none) else none) else none) else (if t258 = true then (if bt260.1.toList = ([] : List UInt8) then (some ((bt262.1.length : Int) == 0)) else none) else none)))) else (some t258))) = some r := H
 have A2 := Aside0.mk A20
 clear A20
 replace H := Option.bind_eq_some_iff.mp H
 obtain ⟨t259, A30, H⟩ := H
 replace H : (if t259 = true then ((lex_Print.f l0).bind fun bt260 => ((lex_Tokens.f k bt260.1).bind fun bt262 => (if bt260.2 = 0 then (if t258 = true then (if bt262.2.1 = 0 then (if bt262.2.2 = 0 then ((partitaref18_Bare.f k bt262.1).bind fun t267 => ((partitaref18_Bare.f k l0).bind fun t270 => ((partitaref18_Same.f k t267 t270).bind fun t273 => (some t273)))) else none) else none) else none) else (if t258 = true then (if bt260.1.toList = ([] : List UInt8) then (some ((bt262.1.length : Int) == 0)) else none) else none)))) else (some t258)) = some r := H
 have A3 := Aside0.mk A30
 clear A30
 by_cases c4 : t259 = true
 · subst c4
   have H1 : ((lex_Print.f l0).bind fun bt260 => ((lex_Tokens.f k bt260.1).bind fun bt262 => (if bt260.2 = 0 then (if t258 = true then (if bt262.2.1 = 0 then (if bt262.2.2 = 0 then ((partitaref18_Bare.f k bt262.1).bind fun t267 => ((partitaref18_Bare.f k l0).bind fun t270 => ((partitaref18_Same.f k t267 t270).bind fun t273 => (some t273)))) else none) else none) else none) else (if t258 = true then (if bt260.1.toList = ([] : List UInt8) then (some ((bt262.1.length : Int) == 0)) else none) else none)))) = some r := by rw [if_pos rfl] at H; exact H
   clear H
   have H := H1
   clear H1
   replace H := Option.bind_eq_some_iff.mp H
   obtain ⟨⟨t260, t261⟩, A50, H⟩ := H
   replace H : ((lex_Tokens.f k t260).bind fun bt262 => (if t261 = 0 then (if t258 = true then (if bt262.2.1 = 0 then (if bt262.2.2 = 0 then ((partitaref18_Bare.f k bt262.1).bind fun t267 => ((partitaref18_Bare.f k l0).bind fun t270 => ((partitaref18_Same.f k t267 t270).bind fun t273 => (some t273)))) else none) else none) else none) else (if t258 = true then (if t260.toList = ([] : List UInt8) then (some ((bt262.1.length : Int) == 0)) else none) else none))) = some r := H
   have A5 := Aside0.mk A50
   clear A50
   replace H := Option.bind_eq_some_iff.mp H
   obtain ⟨⟨t262, t263, t264⟩, A60, H⟩ := H
   replace H : (if t261 = 0 then (if t258 = true then (if t263 = 0 then (if t264 = 0 then ((partitaref18_Bare.f k t262).bind fun t267 => ((partitaref18_Bare.f k l0).bind fun t270 => ((partitaref18_Same.f k t267 t270).bind fun t273 => (some t273)))) else none) else none) else none) else (if t258 = true then (if t260.toList = ([] : List UInt8) then (some ((t262.length : Int) == 0)) else none) else none)) = some r := H
   have A6 := Aside0.mk A60
   clear A60
   by_cases c7 : t261 = 0
   · rw [if_pos c7] at H
     have c7b0 : (t261 == 0) = true := beq_iff_eq.mpr c7
     have c7b1 : (t261 != 0) = false := bne_eq_false_iff_eq.mpr c7
     clear c7
     by_cases c8 : t258 = true
     · subst c8
       have H1 : (if t263 = 0 then (if t264 = 0 then ((partitaref18_Bare.f k t262).bind fun t267 => ((partitaref18_Bare.f k l0).bind fun t270 => ((partitaref18_Same.f k t267 t270).bind fun t273 => (some t273)))) else none) else none) = some r := by rw [if_pos rfl] at H; exact H
       clear H
       have H := H1
       clear H1
       by_cases c9 : t263 = 0
       · rw [if_pos c9] at H
         have c9b0 : (t263 == 0) = true := beq_iff_eq.mpr c9
         have c9b1 : (t263 != 0) = false := bne_eq_false_iff_eq.mpr c9
         clear c9
         by_cases c10 : t264 = 0
         · rw [if_pos c10] at H
           have c10b0 : (t264 == 0) = true := beq_iff_eq.mpr c10
           have c10b1 : (t264 != 0) = false := bne_eq_false_iff_eq.mpr c10
           clear c10
           replace H := Option.bind_eq_some_iff.mp H
           obtain ⟨t267, A110, H⟩ := H
           replace H : ((partitaref18_Bare.f k l0).bind fun t270 => ((partitaref18_Same.f k t267 t270).bind fun t273 => (some t273))) = some r := H
           have A11 := Aside0.mk A110
           clear A110
           replace H := Option.bind_eq_some_iff.mp H
           obtain ⟨t270, A120, H⟩ := H
           replace H : ((partitaref18_Same.f k t267 t270).bind fun t273 => (some t273)) = some r := H
           have A12 := Aside0.mk A120
           clear A120
           replace H := Option.bind_eq_some_iff.mp H
           obtain ⟨t273, A130, H⟩ := H
           replace H : (some t273) = some r := H
           have A13 := Aside0.mk A130
           clear A130
           obtain rfl := Option.some.inj H
           go_enter Tryd.func6, Tryd.ntmps6
           go_wp2_with (first | ((with_reducible refine gate_callee (f := 12) rfl ?_); refine goesL_ (some 9) rfl rfl Tryd.func12 (by kernel_rfl) rfl #[] rfl (by (try simp only [List.map_toArray, List.map_cons, List.map_nil]); first | done | rfl | (simp only [List.length_drop, List.length_take]; rfl)) ?_; (with_reducible refine (partitalaw18_awake.calls k  true _ A2.out).mono ?_); rintro e w14 ⟨rfl, hb⟩; refine ⟨_, rfl, ?_⟩; have n0_ := Aside0.mk (below_step (by repeat (first | (with_reducible first | exact HB.out | apply below_alloc | apply pw_below_drewN | apply below_drew1) | exact HB.out)) hb); clear HB; have HB := n0_; clear n0_; (try clear hb); (try clear hb2); (try clear hk); (try clear hi)) | ((with_reducible refine gate_callee (f := 16) rfl ?_); refine goesL_ (some 11) rfl rfl Tryd.func16 (by kernel_rfl) rfl #[.slice A0 l0.length c0] rfl (by (try simp only [List.map_toArray, List.map_cons, List.map_nil]); first | done | rfl | (simp only [List.length_drop, List.length_take]; rfl)) ?_; (with_reducible refine (partitaref18_Few.calls k _ _ l0 true _ ?side1 ?side2 A3.out).mono ?_); (case side1 => repeat (first | exact (Kd.C_below HR0.out HB.out) | (with_reducible refine Kd.C_alloc ?_ _) | (with_reducible refine Kd.C_drewN ?_ _) | (with_reducible refine Kd.C_drew ?_))); (case side2 => exact HC0.out); rintro e w' ⟨rfl, ⟨nd, rfl⟩⟩; refine ⟨_, rfl, ?_⟩) | ((with_reducible refine gate_callee (f := 17) rfl ?_); refine goesL_ (some 16) rfl rfl Tryd.func17 (by kernel_rfl) rfl #[.slice A0 l0.length c0] rfl (by (try simp only [List.map_toArray, List.map_cons, List.map_nil]); first | done | rfl | (simp only [List.length_drop, List.length_take]; rfl)) ?_; (with_reducible refine (lex_Print.calls _ _ l0 t260 t261 _ ?side1 ?side2 A5.out).mono ?_); (case side1 => repeat (first | exact (Kd.C_below HR0.out (by repeat (first | (with_reducible first | exact HB.out | apply below_alloc | apply pw_below_drewN | apply below_drew1) | exact HB.out))) | (with_reducible refine Kd.C_alloc ?_ _) | (with_reducible refine Kd.C_drewN ?_ _) | (with_reducible refine Kd.C_drew ?_))); (case side2 => exact HC0.out); rintro e w15 ⟨rfl, hb⟩; refine ⟨_, rfl, ?_⟩; have n0_ := Aside0.mk (below_step (by repeat (first | (with_reducible first | exact HB.out | apply below_alloc | apply pw_below_drewN | apply below_drew1) | exact HB.out)) hb); clear HB; have HB := n0_; clear n0_; (try clear hb); (try clear hb2); (try clear hk); (try clear hi)) | ((with_reducible refine gate_callee (f := 13) rfl ?_); refine goesL_ (some 21) rfl rfl Tryd.func13 (by kernel_rfl) rfl #[.string t260] rfl (by (try simp only [List.map_toArray, List.map_cons, List.map_nil]); first | done | rfl | (simp only [List.length_drop, List.length_take]; rfl)) ?_; (with_reducible refine (lex_Tokens.calls k t260 t262 t263 t264 _ A6.out).mono ?_); rintro e w16 ⟨v265, rfl, ho0, hb⟩; refine ⟨_, rfl, ?_⟩; have n0_ := Aside0.mk (Kd.R_lower ho0 (below_size (by repeat (first | (with_reducible first | exact HB.out | apply below_alloc | apply pw_below_drewN | apply below_drew1) | exact HB.out)))); have n1_ := Aside0.mk (below_step (by repeat (first | (with_reducible first | exact HB.out | apply below_alloc | apply pw_below_drewN | apply below_drew1) | exact HB.out)) hb); clear HB; have HO266 := n0_; have HB := n1_; clear n0_ n1_; (try clear hb); (try clear hb2); (try clear hk); (try clear hi); (try clear ho0); obtain ⟨Ao17, co17, eo17⟩ := Kd.R_slice HO266.out; subst eo17) | (go_at_call 21; (with_reducible refine (partitaref18_Bare.calls k _ _ t262 t267 _ ?side1 ?side2 A11.out).mono ?_); (case side1 => repeat (first | exact (Kd.R_reads' HO266.out).2.2 | (with_reducible refine Kd.C_alloc ?_ _) | (with_reducible refine Kd.C_drewN ?_ _) | (with_reducible refine Kd.C_drew ?_))); (case side2 => exact (Kd.R_reads' HO266.out).2.1); rintro e w18 ⟨v268, rfl, ho0, hb⟩; have n0_ := Aside0.mk (Kd.R_elder' (qR HO266.out) (Kd.R_base ho0) hb); have n1_ := Aside0.mk (Kd.R_lower (Kd.R_new' ho0 (Kd.R_lt (qR HO266.out))) (below_size (by repeat (first | (with_reducible first | exact HB.out | apply below_alloc | apply pw_below_drewN | apply below_drew1) | exact HB.out)))); have n2_ := Aside0.mk (below_step (by repeat (first | (with_reducible first | exact HB.out | apply below_alloc | apply pw_below_drewN | apply below_drew1) | exact HB.out)) hb); clear HO266; clear HB; have HO266 := n0_; have HO269 := n1_; have HB := n2_; clear n0_ n1_ n2_; (try clear hb); (try clear hb2); (try clear hk); (try clear hi); (try clear ho0)) | (go_at_call 21; (with_reducible refine (partitaref18_Bare.calls k _ _ l0 t270 _ ?side1 ?side2 A12.out).mono ?_); (case side1 => repeat (first | exact (Kd.C_below HR0.out HB.out) | (with_reducible refine Kd.C_alloc ?_ _) | (with_reducible refine Kd.C_drewN ?_ _) | (with_reducible refine Kd.C_drew ?_))); (case side2 => exact HC0.out); rintro e w19 ⟨v271, rfl, ho0, hb⟩; have n0_ := Aside0.mk (Kd.R_elder' (qR HO266.out) (Kd.R_base ho0) hb); have n1_ := Aside0.mk (Kd.R_elder' (qR HO269.out) (Kd.R_base ho0) hb); have n2_ := Aside0.mk (Kd.R_lower (Kd.R_new' (Kd.R_new' ho0 (Kd.R_lt (qR HO266.out))) (Kd.R_lt (qR HO269.out))) (below_size (by repeat (first | (with_reducible first | exact HB.out | apply below_alloc | apply pw_below_drewN | apply below_drew1) | exact HB.out)))); have n3_ := Aside0.mk (below_step (by repeat (first | (with_reducible first | exact HB.out | apply below_alloc | apply pw_below_drewN | apply below_drew1) | exact HB.out)) hb); clear HO266; clear HO269; clear HB; have HO266 := n0_; have HO269 := n1_; have HO272 := n2_; have HB := n3_; clear n0_ n1_ n2_ n3_; (try clear hb); (try clear hb2); (try clear hk); (try clear hi); (try clear ho0); obtain ⟨Ao20, co20, eo20⟩ := Kd.R_slice HO269.out; subst eo20; obtain ⟨Ao21, co21, eo21⟩ := Kd.R_slice HO272.out; subst eo21) | (go_at_call 15; (with_reducible refine (partitaref18_Same.calls k _ _ t267 _ _ t270 t273 _ ?side1 ?side2 ?side3 ?side4 A13.out).mono ?_); (case side1 => repeat (first | exact (Kd.R_reads' HO269.out).2.2 | (with_reducible refine Kd.C_alloc ?_ _) | (with_reducible refine Kd.C_drewN ?_ _) | (with_reducible refine Kd.C_drew ?_))); (case side2 => exact (Kd.R_reads' HO269.out).2.1); (case side3 => repeat (first | exact (Kd.R_reads' HO272.out).2.2 | (with_reducible refine Kd.C_alloc ?_ _) | (with_reducible refine Kd.C_drewN ?_ _) | (with_reducible refine Kd.C_drew ?_))); (case side4 => exact (Kd.R_reads' HO272.out).2.1); rintro e w' ⟨rfl, ⟨nd, rfl⟩⟩))
           go_ret
           exact ⟨by first | rfl | (simp [errW_none, errW_some] <;> rfl) | (simp [*, errW_none, errW_some] <;> rfl), by repeat (first | (with_reducible first | exact HB.out | apply below_alloc | apply pw_below_drewN | apply below_drew1) | exact HB.out)⟩
         · rw [if_neg c10] at H
           cases H
       · rw [if_neg c9] at H
         cases H
     · replace c8 := Bool.eq_false_iff.mpr c8
       subst c8
       have H1 : none = some r := by rw [if_neg (show ¬ (false = true) by decide)] at H; exact H
       cases H1
   · rw [if_neg c7] at H
     have c7b0 : (t261 == 0) = false := beq_eq_false_iff_ne.mpr c7
     have c7b1 : (t261 != 0) = true := bne_iff_ne.mpr c7
     by_cases c31 : t258 = true
     · subst c31
       have H1 : (if t260.toList = ([] : List UInt8) then (some ((t262.length : Int) == 0)) else none) = some r := by rw [if_pos rfl] at H; exact H
       clear H
       have H := H1
       clear H1
       by_cases c32 : t260.toList = ([] : List UInt8)
       · rw [if_pos c32] at H
         have c32b0 : (t260.toList == ([] : List UInt8)) = true := beq_iff_eq.mpr c32
         have c32b1 : (t260.toList != ([] : List UInt8)) = false := bne_eq_false_iff_eq.mpr c32
         clear c32
         obtain rfl := Option.some.inj H
         go_enter Tryd.func6, Tryd.ntmps6
         go_wp2_with (first | ((with_reducible refine gate_callee (f := 12) rfl ?_); refine goesL_ (some 9) rfl rfl Tryd.func12 (by kernel_rfl) rfl #[] rfl (by (try simp only [List.map_toArray, List.map_cons, List.map_nil]); first | done | rfl | (simp only [List.length_drop, List.length_take]; rfl)) ?_; (with_reducible refine (partitalaw18_awake.calls k  true _ A2.out).mono ?_); rintro e w33 ⟨rfl, hb⟩; refine ⟨_, rfl, ?_⟩; have n0_ := Aside0.mk (below_step (by repeat (first | (with_reducible first | exact HB.out | apply below_alloc | apply pw_below_drewN | apply below_drew1) | exact HB.out)) hb); clear HB; have HB := n0_; clear n0_; (try clear hb); (try clear hb2); (try clear hk); (try clear hi)) | ((with_reducible refine gate_callee (f := 16) rfl ?_); refine goesL_ (some 11) rfl rfl Tryd.func16 (by kernel_rfl) rfl #[.slice A0 l0.length c0] rfl (by (try simp only [List.map_toArray, List.map_cons, List.map_nil]); first | done | rfl | (simp only [List.length_drop, List.length_take]; rfl)) ?_; (with_reducible refine (partitaref18_Few.calls k _ _ l0 true _ ?side1 ?side2 A3.out).mono ?_); (case side1 => repeat (first | exact (Kd.C_below HR0.out HB.out) | (with_reducible refine Kd.C_alloc ?_ _) | (with_reducible refine Kd.C_drewN ?_ _) | (with_reducible refine Kd.C_drew ?_))); (case side2 => exact HC0.out); rintro e w' ⟨rfl, ⟨nd, rfl⟩⟩; refine ⟨_, rfl, ?_⟩) | ((with_reducible refine gate_callee (f := 17) rfl ?_); refine goesL_ (some 16) rfl rfl Tryd.func17 (by kernel_rfl) rfl #[.slice A0 l0.length c0] rfl (by (try simp only [List.map_toArray, List.map_cons, List.map_nil]); first | done | rfl | (simp only [List.length_drop, List.length_take]; rfl)) ?_; (with_reducible refine (lex_Print.calls _ _ l0 t260 t261 _ ?side1 ?side2 A5.out).mono ?_); (case side1 => repeat (first | exact (Kd.C_below HR0.out (by repeat (first | (with_reducible first | exact HB.out | apply below_alloc | apply pw_below_drewN | apply below_drew1) | exact HB.out))) | (with_reducible refine Kd.C_alloc ?_ _) | (with_reducible refine Kd.C_drewN ?_ _) | (with_reducible refine Kd.C_drew ?_))); (case side2 => exact HC0.out); rintro e w34 ⟨rfl, hb⟩; refine ⟨_, rfl, ?_⟩; have n0_ := Aside0.mk (below_step (by repeat (first | (with_reducible first | exact HB.out | apply below_alloc | apply pw_below_drewN | apply below_drew1) | exact HB.out)) hb); clear HB; have HB := n0_; clear n0_; (try clear hb); (try clear hb2); (try clear hk); (try clear hi)) | ((with_reducible refine gate_callee (f := 13) rfl ?_); refine goesL_ (some 21) rfl rfl Tryd.func13 (by kernel_rfl) rfl #[.string t260] rfl (by (try simp only [List.map_toArray, List.map_cons, List.map_nil]); first | done | rfl | (simp only [List.length_drop, List.length_take]; rfl)) ?_; (with_reducible refine (lex_Tokens.calls k t260 t262 t263 t264 _ A6.out).mono ?_); rintro e w35 ⟨v265, rfl, ho0, hb⟩; refine ⟨_, rfl, ?_⟩; have n0_ := Aside0.mk (Kd.R_lower ho0 (below_size (by repeat (first | (with_reducible first | exact HB.out | apply below_alloc | apply pw_below_drewN | apply below_drew1) | exact HB.out)))); have n1_ := Aside0.mk (below_step (by repeat (first | (with_reducible first | exact HB.out | apply below_alloc | apply pw_below_drewN | apply below_drew1) | exact HB.out)) hb); clear HB; have HO266 := n0_; have HB := n1_; clear n0_ n1_; (try clear hb); (try clear hb2); (try clear hk); (try clear hi); (try clear ho0); obtain ⟨Ao36, co36, eo36⟩ := Kd.R_slice HO266.out; subst eo36))
         go_ret
         exact ⟨by first | rfl | (simp [errW_none, errW_some] <;> rfl) | (simp [*, errW_none, errW_some] <;> rfl), by repeat (first | (with_reducible first | exact HB.out | apply below_alloc | apply pw_below_drewN | apply below_drew1) | exact HB.out)⟩
       · rw [if_neg c32] at H
         cases H
     · replace c31 := Bool.eq_false_iff.mpr c31
       subst c31
       have H1 : none = some r := by rw [if_neg (show ¬ (false = true) by decide)] at H; exact H
       cases H1
 · replace c4 := Bool.eq_false_iff.mpr c4
   subst c4
   have H1 : (some t258) = some r := by rw [if_neg (show ¬ (false = true) by decide)] at H; exact H
   clear H
   have H := H1
   clear H1
   obtain rfl := Option.some.inj H
   go_enter Tryd.func6, Tryd.ntmps6
   go_wp2_with (first | ((with_reducible refine gate_callee (f := 12) rfl ?_); refine goesL_ (some 9) rfl rfl Tryd.func12 (by kernel_rfl) rfl #[] rfl (by (try simp only [List.map_toArray, List.map_cons, List.map_nil]); first | done | rfl | (simp only [List.length_drop, List.length_take]; rfl)) ?_; (with_reducible refine (partitalaw18_awake.calls k  t258 _ A2.out).mono ?_); rintro e w43 ⟨rfl, hb⟩; refine ⟨_, rfl, ?_⟩; have n0_ := Aside0.mk (below_step (by repeat (first | (with_reducible first | exact HB.out | apply below_alloc | apply pw_below_drewN | apply below_drew1) | exact HB.out)) hb); clear HB; have HB := n0_; clear n0_; (try clear hb); (try clear hb2); (try clear hk); (try clear hi)) | ((with_reducible refine gate_callee (f := 16) rfl ?_); refine goesL_ (some 11) rfl rfl Tryd.func16 (by kernel_rfl) rfl #[.slice A0 l0.length c0] rfl (by (try simp only [List.map_toArray, List.map_cons, List.map_nil]); first | done | rfl | (simp only [List.length_drop, List.length_take]; rfl)) ?_; (with_reducible refine (partitaref18_Few.calls k _ _ l0 false _ ?side1 ?side2 A3.out).mono ?_); (case side1 => repeat (first | exact (Kd.C_below HR0.out HB.out) | (with_reducible refine Kd.C_alloc ?_ _) | (with_reducible refine Kd.C_drewN ?_ _) | (with_reducible refine Kd.C_drew ?_))); (case side2 => exact HC0.out); rintro e w' ⟨rfl, ⟨nd, rfl⟩⟩; refine ⟨_, rfl, ?_⟩))
   go_ret
   exact ⟨by first | rfl | (simp [errW_none, errW_some] <;> rfl) | (simp [*, errW_none, errW_some] <;> rfl), by repeat (first | (with_reducible first | exact HB.out | apply below_alloc | apply pw_below_drewN | apply below_drew1) | exact HB.out)⟩

end Go.Proofs.YtllccnijipgncaaDoor.Q
