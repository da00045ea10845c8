-- Written by a program of this session (myprint.py), function by function.
import Derived.Test.YtllccnijipgncaaDoorQ0
import Derived.Test.YtllccnijipgncaaDoorQ4
import Derived.Test.YtllccnijipgncaaDoorQ6
import Derived.Test.YtllccnijipgncaaDoorQ11
namespace Go.Proofs.YtllccnijipgncaaDoor.Q
open Go.RowKit Go.Proofs.YtllccnijipgncaaDoorW.PrintWords Go.Proofs.YtllccnijipgncaaDoorW.PrintLast Go.Proofs.YtllccnijipgncaaDoorW.PrintMore
attribute [local go_sem] max2_int min2_int max_two min_two max_three min_three max_four min_four   -- for this text's walks alone
set_option linter.unusedVariables false
set_option linter.unusedSimpArgs false

/-! ### partitalaw18_LexTokens: function 3 -/
def partitalaw18_LexTokens.f (k : Nat) (a0 : ByteArray) : Option (Bool) := (partitalaw18_awake.f k).bind fun t182 => (if (a0.size : Int) > 300 then (some t182) else ((lex_Tokens.f k a0).bind fun bt183 => ((partitaref18_Tokens.f k a0).bind fun bt188 => (if t182 = true then ((partitaref18_Same.f k bt183.1 bt188.1).bind fun t193 => (if t193 = true then (if bt183.2.1 = bt188.2.1 then (some (bt183.2.2 == bt188.2.2)) else none) else none)) else none))))
theorem partitalaw18_LexTokens.mono : ∀ a0 k, LeO (partitalaw18_LexTokens.f k a0) (partitalaw18_LexTokens.f (k + 1) a0) := by
 intro a0 k
 unfold partitalaw18_LexTokens.f
 repeat' first
  | (with_reducible exact lex_Tokens.mono _ _)
  | (with_reducible exact partitalaw18_awake.mono _)
  | (with_reducible exact partitaref18_Same.mono _ _ _)
  | (with_reducible exact partitaref18_Tokens.mono _ _)
  | (with_reducible exact LeO.refl _)
  | (with_reducible exact LeO.none _)
  | (with_reducible refine LeO.ite ?_ ?_)
  | (with_reducible refine LeO.bind ?_ (fun _ => ?_))
  | exact lex_Tokens.mono _ _
  | exact partitalaw18_awake.mono _
  | exact partitaref18_Same.mono _ _ _
  | exact partitaref18_Tokens.mono _ _
  | exact LeO.none _
  | refine LeO.ite ?_ ?_
  | refine LeO.bind ?_ (fun _ => ?_)
set_option maxHeartbeats 8000000 in
set_option maxRecDepth 100000 in
theorem partitalaw18_LexTokens.calls (k : Nat) (a0 : ByteArray) (r : Bool) (w : World) (h : partitalaw18_LexTokens.f k a0 = some r) (TABS : Aside0 (TabsW w) := by exact tabs_step (by assumption) (by repeat (first | (with_reducible first | exact (by assumption : Aside0 (Below _ _ _)).out | apply below_alloc | apply pw_below_drewN | apply below_drew1)))) :
 Calls Tryd.prog 3 #[.string a0] w fun e w' => e = .returned (.bool r) ∧ Below w.heap.size w w' := by
 have HB := Aside0.mk (Below.refl w.heap.size w)
 have H : ((partitalaw18_awake.f k).bind fun t182 => (if (a0.size : Int) > 300 then (some t182) else ((lex_Tokens.f k a0).bind fun bt183 => ((partitaref18_Tokens.f k a0).bind fun bt188 => (if t182 = true then ((partitaref18_Same.f k bt183.1 bt188.1).bind fun t193 => (if t193 = true then (if bt183.2.1 = bt188.2.1 then (some (bt183.2.2 == bt188.2.2)) else none) else none)) else none))))) = some r := h
 clear h
 replace H := Option.bind_eq_some_iff.mp H
 obtain ⟨t182, A20, H⟩ := H
 replace H : (if (a0.size : Int) > 300 then (some t182) else ((lex_Tokens.f k a0).bind fun bt183 => ((partitaref18_Tokens.f k a0).bind fun bt188 => (if t182 = true then ((partitaref18_Same.f k bt183.1 bt188.1).bind fun t193 => (if t193 = true then (if bt183.2.1 = bt188.2.1 then (some (bt183.2.2 == bt188.2.2)) else none) else none)) else none)))) = some r := H
 have A2 := Aside0.mk A20
 clear A20
 by_cases c3 : (a0.size : Int) > 300
 · rw [if_pos c3] at H
   have c3b0 : decide (300 < (a0.size : Int)) = true := decide_eq_true c3
   have c3b1 : decide (300 < a0.size) = true := decide_eq_true (by omega)
   clear c3
   obtain rfl := Option.some.inj H
   go_enter Tryd.func3, Tryd.ntmps3
   go_wp2_with (first | ((with_reducible refine gate_callee (f := 12) rfl ?_); refine goesL_ (some 10) rfl rfl Tryd.func12 (by kernel_rfl) rfl #[] rfl (by (try simp only [List.map_toArray, List.map_cons, List.map_nil]); first | done | rfl | (simp only [List.length_drop, List.length_take]; rfl)) ?_; (with_reducible refine (partitalaw18_awake.calls k  t182 _ A2.out).mono ?_); rintro e w4 ⟨rfl, hb⟩; refine ⟨_, rfl, ?_⟩; have n0_ := Aside0.mk (below_step (by repeat (first | (with_reducible first | exact HB.out | apply below_alloc | apply pw_below_drewN | apply below_drew1) | exact HB.out)) hb); clear HB; have HB := n0_; clear n0_; (try clear hb); (try clear hb2); (try clear hk); (try clear hi)))
   go_ret
   exact ⟨by first | rfl | (simp [errW_none, errW_some] <;> rfl) | (simp [*, errW_none, errW_some] <;> rfl), by repeat (first | (with_reducible first | exact HB.out | apply below_alloc | apply pw_below_drewN | apply below_drew1) | exact HB.out)⟩
 · rw [if_neg c3] at H
   have c3b0 : decide (300 < (a0.size : Int)) = false := decide_eq_false c3
   have c3b1 : decide (300 < a0.size) = false := decide_eq_false (by omega)
   clear c3
   replace H := Option.bind_eq_some_iff.mp H
   obtain ⟨⟨t183, t184, t185⟩, A50, H⟩ := H
   replace H : ((partitaref18_Tokens.f k a0).bind fun bt188 => (if t182 = true then ((partitaref18_Same.f k t183 bt188.1).bind fun t193 => (if t193 = true then (if t184 = bt188.2.1 then (some (t185 == bt188.2.2)) else none) else none)) else none)) = some r := H
   have A5 := Aside0.mk A50
   clear A50
   replace H := Option.bind_eq_some_iff.mp H
   obtain ⟨⟨t188, t189, t190⟩, A60, H⟩ := H
   replace H : (if t182 = true then ((partitaref18_Same.f k t183 t188).bind fun t193 => (if t193 = true then (if t184 = t189 then (some (t185 == t190)) else none) else none)) else none) = some r := H
   have A6 := Aside0.mk A60
   clear A60
   by_cases c7 : t182 = true
   · subst c7
     have H1 : ((partitaref18_Same.f k t183 t188).bind fun t193 => (if t193 = true then (if t184 = t189 then (some (t185 == t190)) else none) else none)) = some r := by rw [if_pos rfl] at H; exact H
     clear H
     have H := H1
     clear H1
     replace H := Option.bind_eq_some_iff.mp H
     obtain ⟨t193, A80, H⟩ := H
     replace H : (if t193 = true then (if t184 = t189 then (some (t185 == t190)) else none) else none) = some r := H
     have A8 := Aside0.mk A80
     clear A80
     by_cases c9 : t193 = true
     · subst c9
       have H1 : (if t184 = t189 then (some (t185 == t190)) else none) = some r := by rw [if_pos rfl] at H; exact H
       clear H
       have H := H1
       clear H1
       by_cases c10 : t184 = t189
       · rw [if_pos c10] at H
         have c10b0 : (t184 == t189) = true := beq_iff_eq.mpr c10
         have c10b1 : (t184 != t189) = false := bne_eq_false_iff_eq.mpr c10
         clear c10
         obtain rfl := Option.some.inj H
         go_enter Tryd.func3, Tryd.ntmps3
         go_wp2_with (first | ((with_reducible refine gate_callee (f := 12) rfl ?_); refine goesL_ (some 10) rfl rfl Tryd.func12 (by kernel_rfl) rfl #[] rfl (by (try simp only [List.map_toArray, List.map_cons, List.map_nil]); first | done | rfl | (simp only [List.length_drop, List.length_take]; rfl)) ?_; (with_reducible refine (partitalaw18_awake.calls k  true _ A2.out).mono ?_); rintro e w11 ⟨rfl, hb⟩; refine ⟨_, rfl, ?_⟩; have n0_ := Aside0.mk (below_step (by repeat (first | (with_reducible first | exact HB.out | apply below_alloc | apply pw_below_drewN | apply below_drew1) | exact HB.out)) hb); clear HB; have HB := n0_; clear n0_; (try clear hb); (try clear hb2); (try clear hk); (try clear hi)) | ((with_reducible refine gate_callee (f := 13) rfl ?_); refine goesL_ (some 17) rfl rfl Tryd.func13 (by kernel_rfl) rfl #[.string a0] rfl (by (try simp only [List.map_toArray, List.map_cons, List.map_nil]); first | done | rfl | (simp only [List.length_drop, List.length_take]; rfl)) ?_; (with_reducible refine (lex_Tokens.calls k a0 t183 t184 t185 _ A5.out).mono ?_); rintro e w12 ⟨v186, rfl, ho0, hb⟩; refine ⟨_, rfl, ?_⟩; have n0_ := Aside0.mk (Kd.R_lower ho0 (below_size (by repeat (first | (with_reducible first | exact HB.out | apply below_alloc | apply pw_below_drewN | apply below_drew1) | exact HB.out)))); have n1_ := Aside0.mk (below_step (by repeat (first | (with_reducible first | exact HB.out | apply below_alloc | apply pw_below_drewN | apply below_drew1) | exact HB.out)) hb); clear HB; have HO187 := n0_; have HB := n1_; clear n0_ n1_; (try clear hb); (try clear hb2); (try clear hk); (try clear hi); (try clear ho0)) | ((with_reducible refine gate_callee (f := 14) rfl ?_); refine goesL_ (some 23) rfl rfl Tryd.func14 (by kernel_rfl) rfl #[.string a0] rfl (by (try simp only [List.map_toArray, List.map_cons, List.map_nil]); first | done | rfl | (simp only [List.length_drop, List.length_take]; rfl)) ?_; (with_reducible refine (partitaref18_Tokens.calls k a0 t188 t189 t190 _ A6.out).mono ?_); rintro e w13 ⟨v191, rfl, ho0, hb⟩; refine ⟨_, rfl, ?_⟩; have n0_ := Aside0.mk (Kd.R_elder' (qR HO187.out) (Kd.R_base ho0) hb); have n1_ := Aside0.mk (Kd.R_lower (Kd.R_new' ho0 (Kd.R_lt (qR HO187.out))) (below_size (by repeat (first | (with_reducible first | exact HB.out | apply below_alloc | apply pw_below_drewN | apply below_drew1) | exact HB.out)))); have n2_ := Aside0.mk (below_step (by repeat (first | (with_reducible first | exact HB.out | apply below_alloc | apply pw_below_drewN | apply below_drew1) | exact HB.out)) hb); clear HO187; clear HB; have HO187 := n0_; have HO192 := n1_; have HB := n2_; clear n0_ n1_ n2_; (try clear hb); (try clear hb2); (try clear hk); (try clear hi); (try clear ho0); obtain ⟨Ao14, co14, eo14⟩ := Kd.R_slice HO187.out; subst eo14; obtain ⟨Ao15, co15, eo15⟩ := Kd.R_slice HO192.out; subst eo15) | (go_at_call 15; (with_reducible refine (partitaref18_Same.calls k _ _ t183 _ _ t188 true _ ?side1 ?side2 ?side3 ?side4 A8.out).mono ?_); (case side1 => repeat (first | exact (Kd.R_reads' HO187.out).2.2 | (with_reducible refine Kd.C_alloc ?_ _) | (with_reducible refine Kd.C_drewN ?_ _) | (with_reducible refine Kd.C_drew ?_))); (case side2 => exact (Kd.R_reads' HO187.out).2.1); (case side3 => repeat (first | exact (Kd.R_reads' HO192.out).2.2 | (with_reducible refine Kd.C_alloc ?_ _) | (with_reducible refine Kd.C_drewN ?_ _) | (with_reducible refine Kd.C_drew ?_))); (case side4 => exact (Kd.R_reads' HO192.out).2.1); rintro e w' ⟨rfl, ⟨nd, rfl⟩⟩))
         go_ret
         exact ⟨by first | rfl | (simp [errW_none, errW_some] <;> rfl) | (simp [*, errW_none, errW_some] <;> rfl), by repeat (first | (with_reducible first | exact HB.out | apply below_alloc | apply pw_below_drewN | apply below_drew1) | exact HB.out)⟩
       · rw [if_neg c10] at H
         cases H
     · replace c9 := Bool.eq_false_iff.mpr c9
       subst c9
       have H1 : none = some r := by rw [if_neg (show ¬ (false = true) by decide)] at H; exact H
       cases H1
   · replace c7 := Bool.eq_false_iff.mpr c7
     subst c7
     have H1 : none = some r := by rw [if_neg (show ¬ (false = true) by decide)] at H; exact H
     cases H1
end Go.Proofs.YtllccnijipgncaaDoor.Q
