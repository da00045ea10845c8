-- Written by a program of this session (myprint.py), function by function.
import Derived.Test.YtllccnijipgncaaDoorQ0
import Derived.Test.YtllccnijipgncaaDoorQ1
import Derived.Test.YtllccnijipgncaaDoorQ4
import Derived.Test.YtllccnijipgncaaDoorQ6
import Derived.Test.YtllccnijipgncaaDoorQ8
namespace Go.Proofs.YtllccnijipgncaaDoor.Q
open Go.RowKit Go.Proofs.YtllccnijipgncaaDoorW.PrintWords Go.Proofs.YtllccnijipgncaaDoorW.PrintLast Go.Proofs.YtllccnijipgncaaDoorW.PrintMore
attribute [local go_sem] max2_int min2_int max_two min_two max_three min_three max_four min_four   -- for this text's walks alone
set_option linter.unusedVariables false
set_option linter.unusedSimpArgs false

attribute [local go_sem high] eqA35
/-! ### partitalaw18_LexQuoteBack: function 8 -/
def partitalaw18_LexQuoteBack.f (k : Nat) (a0 : ByteArray) : Option (Bool) := (partitalaw18_awake.f k).bind fun t296 => (if (a0.size : Int) > 300 then (some t296) else ((lex_Quote.f a0).bind fun bt297 => ((lex_Tokens.f k bt297.1).bind fun bt299 => (if bt297.2 = 0 then (if t296 = true then (if bt299.2.2 = 0 then (if (bt299.1.length : Int) = 1 then (if 0 < (bt299.1.length : Int) then (some (((rd_T35 bt299.1 0).f0) == 3 && ((((rd_T35 bt299.1 0).f1).toList) == a0.toList && (((rd_T35 bt299.1 0).f2) == 0)))) else (none)) else none) else none) else none) else (if t296 = true then (if bt297.1.toList = ([] : List UInt8) then (if (bt299.1.length : Int) = 0 then ((partitaref18_Inside.f k a0).bind fun t305 => (some (!t305))) else none) else none) else none)))))
theorem partitalaw18_LexQuoteBack.mono : ∀ a0 k, LeO (partitalaw18_LexQuoteBack.f k a0) (partitalaw18_LexQuoteBack.f (k + 1) a0) := by
 intro a0 k
 unfold partitalaw18_LexQuoteBack.f
 repeat' first
  | (with_reducible exact lex_Tokens.mono _ _)
  | (with_reducible exact partitalaw18_awake.mono _)
  | (with_reducible exact partitaref18_Inside.mono _ _)
  | (with_reducible exact LeO.refl _)
  | (with_reducible exact LeO.none _)
  | (with_reducible refine LeO.ite ?_ ?_)
  | (with_reducible refine LeO.bind ?_ (fun _ => ?_))
  | exact lex_Tokens.mono _ _
  | exact partitalaw18_awake.mono _
  | exact partitaref18_Inside.mono _ _
  | exact LeO.none _
  | refine LeO.ite ?_ ?_
  | refine LeO.bind ?_ (fun _ => ?_)
set_option maxHeartbeats 8000000 in
set_option maxRecDepth 100000 in
theorem partitalaw18_LexQuoteBack.calls (k : Nat) (a0 : ByteArray) (r : Bool) (w : World) (h : partitalaw18_LexQuoteBack.f k a0 = some r) (TABS : Aside0 (TabsW w) := by exact tabs_step (by assumption) (by repeat (first | (with_reducible first | exact (by assumption : Aside0 (Below _ _ _)).out | apply below_alloc | apply pw_below_drewN | apply below_drew1)))) :
 Calls Tryd.prog 8 #[.string a0] w fun e w' => e = .returned (.bool r) ∧ Below w.heap.size w w' := by
 have hu35 := Tryd.underlying35
 have HB := Aside0.mk (Below.refl w.heap.size w)
 have H : ((partitalaw18_awake.f k).bind fun t296 => (if (a0.size : Int) > 300 then (some t296) else ((lex_Quote.f a0).bind fun bt297 => ((lex_Tokens.f k bt297.1).bind fun bt299 => (if bt297.2 = 0 then (if t296 = true then (if bt299.2.2 = 0 then (if (bt299.1.length : Int) = 1 then (if 0 < (bt299.1.length : Int) then (some (((rd_T35 bt299.1 0).f0) == 3 && ((((rd_T35 bt299.1 0).f1).toList) == a0.toList && (((rd_T35 bt299.1 0).f2) == 0)))) else (none)) else none) else none) else none) else (if t296 = true then (if bt297.1.toList = ([] : List UInt8) then (if (bt299.1.length : Int) = 0 then ((partitaref18_Inside.f k a0).bind fun t305 => (some (!t305))) else none) else none) else none)))))) = some r := h
 clear h
 replace H := Option.bind_eq_some_iff.mp H
 obtain ⟨t296, A20, H⟩ := H
 replace H : (if (a0.size : Int) > 300 then (some t296) else ((lex_Quote.f a0).bind fun bt297 => ((lex_Tokens.f k bt297.1).bind fun bt299 => (if bt297.2 = 0 then (if t296 = true then (if bt299.2.2 = 0 then (if (bt299.1.length : Int) = 1 then (if 0 < (bt299.1.length : Int) then (some (((rd_T35 bt299.1 0).f0) == 3 && ((((rd_T35 bt299.1 0).f1).toList) == a0.toList && (((rd_T35 bt299.1 0).f2) == 0)))) else (none)) else none) else none) else none) else (if t296 = true then (if bt297.1.toList = ([] : List UInt8) then (if (bt299.1.length : Int) = 0 then ((partitaref18_Inside.f k a0).bind fun t305 => (some (!t305))) else none) else none) else none))))) = some r := H
 have A2 := Aside0.mk A20
 clear A20
 by_cases c3 : (a0.size : Int) > 300
 · rw [if_pos c3] at H
   have c3b0 : decide (300 < (a0.size : Int)) = true := decide_eq_true c3
   have c3b1 : decide (300 < a0.size) = true := decide_eq_true (by omega)
   clear c3
   obtain rfl := Option.some.inj H
   go_enter Tryd.func8, Tryd.ntmps8
   go_wp2_with (first | ((with_reducible refine gate_callee (f := 12) rfl ?_); refine goesL_ (some 9) rfl rfl Tryd.func12 (by kernel_rfl) rfl #[] rfl (by (try simp only [List.map_toArray, List.map_cons, List.map_nil]); first | done | rfl | (simp only [List.length_drop, List.length_take]; rfl)) ?_; (with_reducible refine (partitalaw18_awake.calls k  t296 _ A2.out).mono ?_); rintro e w4 ⟨rfl, hb⟩; refine ⟨_, rfl, ?_⟩; have n0_ := Aside0.mk (below_step (by repeat (first | (with_reducible first | exact HB.out | apply below_alloc | apply pw_below_drewN | apply below_drew1) | exact HB.out)) hb); clear HB; have HB := n0_; clear n0_; (try clear hb); (try clear hb2); (try clear hk); (try clear hi)))
   go_ret
   exact ⟨by first | rfl | (simp [errW_none, errW_some] <;> rfl) | (simp [*, errW_none, errW_some] <;> rfl), by repeat (first | (with_reducible first | exact HB.out | apply below_alloc | apply pw_below_drewN | apply below_drew1) | exact HB.out)⟩
 · rw [if_neg c3] at H
   have c3b0 : decide (300 < (a0.size : Int)) = false := decide_eq_false c3
   have c3b1 : decide (300 < a0.size) = false := decide_eq_false (by omega)
   clear c3
   replace H := Option.bind_eq_some_iff.mp H
   obtain ⟨⟨t297, t298⟩, A50, H⟩ := H
   replace H : ((lex_Tokens.f k t297).bind fun bt299 => (if t298 = 0 then (if t296 = true then (if bt299.2.2 = 0 then (if (bt299.1.length : Int) = 1 then (if 0 < (bt299.1.length : Int) then (some (((rd_T35 bt299.1 0).f0) == 3 && ((((rd_T35 bt299.1 0).f1).toList) == a0.toList && (((rd_T35 bt299.1 0).f2) == 0)))) else (none)) else none) else none) else none) else (if t296 = true then (if t297.toList = ([] : List UInt8) then (if (bt299.1.length : Int) = 0 then ((partitaref18_Inside.f k a0).bind fun t305 => (some (!t305))) else none) else none) else none))) = some r := H
   have A5 := Aside0.mk A50
   clear A50
   replace H := Option.bind_eq_some_iff.mp H
   obtain ⟨⟨t299, t300, t301⟩, A60, H⟩ := H
   replace H : (if t298 = 0 then (if t296 = true then (if t301 = 0 then (if (t299.length : Int) = 1 then (if 0 < (t299.length : Int) then (some (((rd_T35 t299 0).f0) == 3 && ((((rd_T35 t299 0).f1).toList) == a0.toList && (((rd_T35 t299 0).f2) == 0)))) else (none)) else none) else none) else none) else (if t296 = true then (if t297.toList = ([] : List UInt8) then (if (t299.length : Int) = 0 then ((partitaref18_Inside.f k a0).bind fun t305 => (some (!t305))) else none) else none) else none)) = some r := H
   have A6 := Aside0.mk A60
   clear A60
   by_cases c7 : t298 = 0
   · rw [if_pos c7] at H
     have c7b0 : (t298 == 0) = true := beq_iff_eq.mpr c7
     have c7b1 : (t298 != 0) = false := bne_eq_false_iff_eq.mpr c7
     clear c7
     by_cases c8 : t296 = true
     · subst c8
       have H1 : (if t301 = 0 then (if (t299.length : Int) = 1 then (if 0 < (t299.length : Int) then (some (((rd_T35 t299 0).f0) == 3 && ((((rd_T35 t299 0).f1).toList) == a0.toList && (((rd_T35 t299 0).f2) == 0)))) else (none)) else none) else none) = some r := by rw [if_pos rfl] at H; exact H
       clear H
       have H := H1
       clear H1
       by_cases c9 : t301 = 0
       · rw [if_pos c9] at H
         have c9b0 : (t301 == 0) = true := beq_iff_eq.mpr c9
         have c9b1 : (t301 != 0) = false := bne_eq_false_iff_eq.mpr c9
         clear c9
         by_cases c10 : (t299.length : Int) = 1
         · rw [if_pos c10] at H
           have c10b0 : ((t299.length : Int) == 1) = true := beq_iff_eq.mpr c10
           have c10b1 : ((t299.length : Int) != 1) = false := bne_eq_false_iff_eq.mpr c10
           clear c10
           by_cases c11 : 0 < (t299.length : Int)
           · rw [if_pos c11] at H
             have c11b0 : decide (0 < (t299.length : Int)) = true := decide_eq_true c11
             have c11b1 : decide (0 < t299.length) = true := decide_eq_true (by omega)
             clear c11
             obtain rfl := Option.some.inj H
             go_enter Tryd.func8, Tryd.ntmps8
             go_wp2_with (first | ((with_reducible refine gate_callee (f := 12) rfl ?_); refine goesL_ (some 9) rfl rfl Tryd.func12 (by kernel_rfl) rfl #[] rfl (by (try simp only [List.map_toArray, List.map_cons, List.map_nil]); first | done | rfl | (simp only [List.length_drop, List.length_take]; rfl)) ?_; (with_reducible refine (partitalaw18_awake.calls k  true _ A2.out).mono ?_); rintro e w12 ⟨rfl, hb⟩; refine ⟨_, rfl, ?_⟩; have n0_ := Aside0.mk (below_step (by repeat (first | (with_reducible first | exact HB.out | apply below_alloc | apply pw_below_drewN | apply below_drew1) | exact HB.out)) hb); clear HB; have HB := n0_; clear n0_; (try clear hb); (try clear hb2); (try clear hk); (try clear hi)) | ((with_reducible refine gate_callee (f := 19) rfl ?_); refine goesL_ (some 16) rfl rfl Tryd.func19 (by kernel_rfl) rfl #[.string a0] rfl (by (try simp only [List.map_toArray, List.map_cons, List.map_nil]); first | done | rfl | (simp only [List.length_drop, List.length_take]; rfl)) ?_; (with_reducible refine (lex_Quote.calls a0 t297 t298 _ A5.out).mono ?_); rintro e w13 ⟨rfl, hb⟩; refine ⟨_, rfl, ?_⟩; have n0_ := Aside0.mk (below_step (by repeat (first | (with_reducible first | exact HB.out | apply below_alloc | apply pw_below_drewN | apply below_drew1) | exact HB.out)) hb); clear HB; have HB := n0_; clear n0_; (try clear hb); (try clear hb2); (try clear hk); (try clear hi)) | ((with_reducible refine gate_callee (f := 13) rfl ?_); refine goesL_ (some 21) rfl rfl Tryd.func13 (by kernel_rfl) rfl #[.string t297] rfl (by (try simp only [List.map_toArray, List.map_cons, List.map_nil]); first | done | rfl | (simp only [List.length_drop, List.length_take]; rfl)) ?_; (with_reducible refine (lex_Tokens.calls k t297 t299 t300 t301 _ A6.out).mono ?_); rintro e w14 ⟨v302, rfl, ho0, hb⟩; refine ⟨_, rfl, ?_⟩; have n0_ := Aside0.mk (Kd.R_lower ho0 (below_size (by repeat (first | (with_reducible first | exact HB.out | apply below_alloc | apply pw_below_drewN | apply below_drew1) | exact HB.out)))); have n1_ := Aside0.mk (below_step (by repeat (first | (with_reducible first | exact HB.out | apply below_alloc | apply pw_below_drewN | apply below_drew1) | exact HB.out)) hb); clear HB; have HO303 := n0_; have HB := n1_; clear n0_ n1_; (try clear hb); (try clear hb2); (try clear hk); (try clear hi); (try clear ho0); obtain ⟨Ao15, co15, eo15⟩ := Kd.R_slice HO303.out; subst eo15; have p304 : 0 ≤ (0 : Int) := (by omega); have q304 : 0 < (t299.length : Int) := of_decide_eq_true (by first | (with_reducible assumption) | assumption); obtain ⟨ad304, e304, hx304_0, hx304_1, hx304_2⟩ := at_T35 (Kd.R_reads' HO303.out).2.2 0 p304 q304; cases e304; have qi304 : (0 < t299.length) = True := eq_true (by omega); (try rw [show ((0 : Int)).toNat = 0 from rfl] at hx304_0); (try rw [show 0 * 3 = 0 from rfl] at hx304_0); (try rw [Addr.add_zero'] at hx304_0); (try rw [show ((0 : Int)).toNat = 0 from rfl] at hx304_1); (try rw [show 0 * 3 = 0 from rfl] at hx304_1); (try rw [Addr.add_zero'] at hx304_1); (try rw [show ((0 : Int)).toNat = 0 from rfl] at hx304_2); (try rw [show 0 * 3 = 0 from rfl] at hx304_2); (try rw [Addr.add_zero'] at hx304_2); replace p304 := eq_true p304; replace q304 := eq_true q304))
             go_ret
             exact ⟨by first | rfl | (simp [errW_none, errW_some] <;> rfl) | (simp [*, errW_none, errW_some] <;> rfl), by repeat (first | (with_reducible first | exact HB.out | apply below_alloc | apply pw_below_drewN | apply below_drew1) | exact HB.out)⟩
           · rw [if_neg c11] at H
             exact absurd H (by simp)
         · rw [if_neg c10] at H
           cases H
       · rw [if_neg c9] at H
         cases H
     · replace c8 := Bool.eq_false_iff.mpr c8
       subst c8
       have H1 : none = some r := by rw [if_neg (show ¬ (false = true) by decide)] at H; exact H
       cases H1
   · rw [if_neg c7] at H
     have c7b0 : (t298 == 0) = false := beq_eq_false_iff_ne.mpr c7
     have c7b1 : (t298 != 0) = true := bne_iff_ne.mpr c7
     by_cases c26 : t296 = true
     · subst c26
       have H1 : (if t297.toList = ([] : List UInt8) then (if (t299.length : Int) = 0 then ((partitaref18_Inside.f k a0).bind fun t305 => (some (!t305))) else none) else none) = some r := by rw [if_pos rfl] at H; exact H
       clear H
       have H := H1
       clear H1
       by_cases c27 : t297.toList = ([] : List UInt8)
       · rw [if_pos c27] at H
         have c27b0 : (t297.toList == ([] : List UInt8)) = true := beq_iff_eq.mpr c27
         have c27b1 : (t297.toList != ([] : List UInt8)) = false := bne_eq_false_iff_eq.mpr c27
         clear c27
         by_cases c28 : (t299.length : Int) = 0
         · rw [if_pos c28] at H
           have c28b0 : ((t299.length : Int) == 0) = true := beq_iff_eq.mpr c28
           have c28b1 : ((t299.length : Int) != 0) = false := bne_eq_false_iff_eq.mpr c28
           clear c28
           replace H := Option.bind_eq_some_iff.mp H
           obtain ⟨t305, A290, H⟩ := H
           replace H : (some (!t305)) = some r := H
           have A29 := Aside0.mk A290
           clear A290
           obtain rfl := Option.some.inj H
           go_enter Tryd.func8, Tryd.ntmps8
           go_wp2_with (first | ((with_reducible refine gate_callee (f := 12) rfl ?_); refine goesL_ (some 9) rfl rfl Tryd.func12 (by kernel_rfl) rfl #[] rfl (by (try simp only [List.map_toArray, List.map_cons, List.map_nil]); first | done | rfl | (simp only [List.length_drop, List.length_take]; rfl)) ?_; (with_reducible refine (partitalaw18_awake.calls k  true _ A2.out).mono ?_); rintro e w30 ⟨rfl, hb⟩; refine ⟨_, rfl, ?_⟩; have n0_ := Aside0.mk (below_step (by repeat (first | (with_reducible first | exact HB.out | apply below_alloc | apply pw_below_drewN | apply below_drew1) | exact HB.out)) hb); clear HB; have HB := n0_; clear n0_; (try clear hb); (try clear hb2); (try clear hk); (try clear hi)) | ((with_reducible refine gate_callee (f := 19) rfl ?_); refine goesL_ (some 16) rfl rfl Tryd.func19 (by kernel_rfl) rfl #[.string a0] rfl (by (try simp only [List.map_toArray, List.map_cons, List.map_nil]); first | done | rfl | (simp only [List.length_drop, List.length_take]; rfl)) ?_; (with_reducible refine (lex_Quote.calls a0 t297 t298 _ A5.out).mono ?_); rintro e w31 ⟨rfl, hb⟩; refine ⟨_, rfl, ?_⟩; have n0_ := Aside0.mk (below_step (by repeat (first | (with_reducible first | exact HB.out | apply below_alloc | apply pw_below_drewN | apply below_drew1) | exact HB.out)) hb); clear HB; have HB := n0_; clear n0_; (try clear hb); (try clear hb2); (try clear hk); (try clear hi)) | ((with_reducible refine gate_callee (f := 13) rfl ?_); refine goesL_ (some 21) rfl rfl Tryd.func13 (by kernel_rfl) rfl #[.string t297] rfl (by (try simp only [List.map_toArray, List.map_cons, List.map_nil]); first | done | rfl | (simp only [List.length_drop, List.length_take]; rfl)) ?_; (with_reducible refine (lex_Tokens.calls k t297 t299 t300 t301 _ A6.out).mono ?_); rintro e w32 ⟨v302, rfl, ho0, hb⟩; refine ⟨_, rfl, ?_⟩; have n0_ := Aside0.mk (Kd.R_lower ho0 (below_size (by repeat (first | (with_reducible first | exact HB.out | apply below_alloc | apply pw_below_drewN | apply below_drew1) | exact HB.out)))); have n1_ := Aside0.mk (below_step (by repeat (first | (with_reducible first | exact HB.out | apply below_alloc | apply pw_below_drewN | apply below_drew1) | exact HB.out)) hb); clear HB; have HO303 := n0_; have HB := n1_; clear n0_ n1_; (try clear hb); (try clear hb2); (try clear hk); (try clear hi); (try clear ho0); obtain ⟨Ao33, co33, eo33⟩ := Kd.R_slice HO303.out; subst eo33) | (go_at_call 22; (with_reducible refine (partitaref18_Inside.calls k a0 t305 _ A29.out).mono ?_); rintro e w' ⟨rfl, ⟨nd, rfl⟩⟩))
           go_ret
           exact ⟨by first | rfl | (simp [errW_none, errW_some] <;> rfl) | (simp [*, errW_none, errW_some] <;> rfl), by repeat (first | (with_reducible first | exact HB.out | apply below_alloc | apply pw_below_drewN | apply below_drew1) | exact HB.out)⟩
         · rw [if_neg c28] at H
           cases H
       · rw [if_neg c27] at H
         cases H
     · replace c26 := Bool.eq_false_iff.mpr c26
       subst c26
       have H1 : none = some r := by rw [if_neg (show ¬ (false = true) by decide)] at H; exact H
       cases H1
end Go.Proofs.YtllccnijipgncaaDoor.Q
