-- Written by a program of this session (myprint.py), function by function.
import Derived.Test.YtllccnijipgncaaDoorQ0
import Derived.Test.YtllccnijipgncaaDoorQ1
import Derived.Test.YtllccnijipgncaaDoorQ4
import Derived.Test.YtllccnijipgncaaDoorQ5
namespace Go.Proofs.YtllccnijipgncaaDoor.Q
open Go.RowKit Go.Proofs.YtllccnijipgncaaDoorW.PrintWords Go.Proofs.YtllccnijipgncaaDoorW.PrintLast Go.Proofs.YtllccnijipgncaaDoorW.PrintMore
attribute [local go_sem] max2_int min2_int max_two min_two max_three min_three max_four min_four   -- for this text's walks alone
set_option linter.unusedVariables false
set_option linter.unusedSimpArgs false

attribute [local go_sem high] eqA35
/-! ### partitalaw18_awake: function 12 -/
def partitalaw18_awake.f (k : Nat)  : Option (Bool) := (lex_Tokens.f k (⟨#[98, 97, 114, 32, 51, 32, 34, 97, 92, 34, 98, 34, 32, 124, 32, 45, 49, 32, 35, 32, 120, 10]⟩ : ByteArray)).bind fun bt127 => ((lex_Print.f bt127.1).bind fun bt132 => ((lex_Quote.f (⟨#[97, 10, 98]⟩ : ByteArray)).bind fun bt134 => ((lex_Tokens.f k (⟨#[97, 32, 48, 48, 55]⟩ : ByteArray)).bind fun bt136 => (if bt127.2.1 = 0 then (if bt127.2.2 = 0 then (if (bt127.1.length : Int) = 6 then (if 2 < (bt127.1.length : Int) then (if (((rd_T35 bt127.1 2).f0) == 3 && ((((rd_T35 bt127.1 2).f1).toList) == ([97, 34, 98] : List UInt8) && (((rd_T35 bt127.1 2).f2) == 6))) = true then (if 4 < (bt127.1.length : Int) then (if ((rd_T35 bt127.1 4).f1).toList = ([45, 49] : List UInt8) then (if 5 < (bt127.1.length : Int) then (if ((rd_T35 bt127.1 5).f0) = 5 then (if bt132.1.toList = ([98, 97, 114, 32, 51, 32, 34, 97, 92, 34, 98, 34, 32, 124, 32, 45, 49, 10] : List UInt8) then (if bt132.2 = 0 then (if bt134.1.toList = ([34, 97, 92, 110, 98, 34] : List UInt8) then (if bt134.2 = 0 then (if bt136.2.1 = 2 then (some (bt136.2.2 == 180)) else none) else none) else none) else none) else none) else none) else (none)) else none) else (none)) else none) else (none)) else none) else none) else none))))
theorem partitalaw18_awake.mono : ∀ k, LeO (partitalaw18_awake.f k ) (partitalaw18_awake.f (k + 1) ) := by
 intro  k
 unfold partitalaw18_awake.f
 repeat' first
  | (with_reducible exact lex_Tokens.mono _ _)
  | (with_reducible exact LeO.refl _)
  | (with_reducible exact LeO.none _)
  | (with_reducible refine LeO.ite ?_ ?_)
  | (with_reducible refine LeO.bind ?_ (fun _ => ?_))
  | exact lex_Tokens.mono _ _
  | exact LeO.none _
  | refine LeO.ite ?_ ?_
  | refine LeO.bind ?_ (fun _ => ?_)
set_option maxHeartbeats 8000000 in
set_option maxRecDepth 100000 in
theorem partitalaw18_awake.calls (k : Nat)  (r : Bool) (w : World) (h : partitalaw18_awake.f k  = some r) (TABS : Aside0 (TabsW w) := by exact tabs_step (by assumption) (by repeat (first | (with_reducible first | exact (by assumption : Aside0 (Below _ _ _)).out | apply below_alloc | apply pw_below_drewN | apply below_drew1)))) :
 Calls Tryd.prog 12 #[] w fun e w' => e = .returned (.bool r) ∧ Below w.heap.size w w' := by
 have hu35 := Tryd.underlying35
 have HB := Aside0.mk (Below.refl w.heap.size w)
 have H : ((lex_Tokens.f k (⟨#[98, 97, 114, 32, 51, 32, 34, 97, 92, 34, 98, 34, 32, 124, 32, 45, 49, 32, 35, 32, 120, 10]⟩ : ByteArray)).bind fun bt127 => ((lex_Print.f bt127.1).bind fun bt132 => ((lex_Quote.f (⟨#[97, 10, 98]⟩ : ByteArray)).bind fun bt134 => ((lex_Tokens.f k (⟨#[97, 32, 48, 48, 55]⟩ : ByteArray)).bind fun bt136 => (if bt127.2.1 = 0 then (if bt127.2.2 = 0 then (if (bt127.1.length : Int) = 6 then (if 2 < (bt127.1.length : Int) then (if (((rd_T35 bt127.1 2).f0) == 3 && ((((rd_T35 bt127.1 2).f1).toList) == ([97, 34, 98] : List UInt8) && (((rd_T35 bt127.1 2).f2) == 6))) = true then (if 4 < (bt127.1.length : Int) then (if ((rd_T35 bt127.1 4).f1).toList = ([45, 49] : List UInt8) then (if 5 < (bt127.1.length : Int) then (if ((rd_T35 bt127.1 5).f0) = 5 then (if bt132.1.toList = ([98, 97, 114, 32, 51, 32, 34, 97, 92, 34, 98, 34, 32, 124, 32, 45, 49, 10] : List UInt8) then (if bt132.2 = 0 then (if bt134.1.toList = ([34, 97, 92, 110, 98, 34] : List UInt8) then (if bt134.2 = 0 then (if bt136.2.1 = 2 then (some (bt136.2.2 == 180)) else none) else none) else none) else none) else none) else none) else (none)) else none) else (none)) else none) else (none)) else none) else none) else none))))) = some r := h
 clear h
 replace H := Option.bind_eq_some_iff.mp H
 obtain ⟨⟨t127, t128, t129⟩, A10, H⟩ := H
 replace H : ((lex_Print.f t127).bind fun bt132 => ((lex_Quote.f (⟨#[97, 10, 98]⟩ : ByteArray)).bind fun bt134 => ((lex_Tokens.f k (⟨#[97, 32, 48, 48, 55]⟩ : ByteArray)).bind fun bt136 => (if t128 = 0 then (if t129 = 0 then (if (t127.length : Int) = 6 then (if 2 < (t127.length : Int) then (if (((rd_T35 t127 2).f0) == 3 && ((((rd_T35 t127 2).f1).toList) == ([97, 34, 98] : List UInt8) && (((rd_T35 t127 2).f2) == 6))) = true then (if 4 < (t127.length : Int) then (if ((rd_T35 t127 4).f1).toList = ([45, 49] : List UInt8) then (if 5 < (t127.length : Int) then (if ((rd_T35 t127 5).f0) = 5 then (if bt132.1.toList = ([98, 97, 114, 32, 51, 32, 34, 97, 92, 34, 98, 34, 32, 124, 32, 45, 49, 10] : List UInt8) then (if bt132.2 = 0 then (if bt134.1.toList = ([34, 97, 92, 110, 98, 34] : List UInt8) then (if bt134.2 = 0 then (if bt136.2.1 = 2 then (some (bt136.2.2 == 180)) else none) else none) else none) else none) else none) else none) else (none)) else none) else (none)) else none) else (none)) else none) else none) else none)))) = some r := H
 have A1 := Aside0.mk A10
 clear A10
 replace H := Option.bind_eq_some_iff.mp H
 obtain ⟨⟨t132, t133⟩, A20, H⟩ := H
 replace H : ((lex_Quote.f (⟨#[97, 10, 98]⟩ : ByteArray)).bind fun bt134 => ((lex_Tokens.f k (⟨#[97, 32, 48, 48, 55]⟩ : ByteArray)).bind fun bt136 => (if t128 = 0 then (if t129 = 0 then (if (t127.length : Int) = 6 then (if 2 < (t127.length : Int) then (if (((rd_T35 t127 2).f0) == 3 && ((((rd_T35 t127 2).f1).toList) == ([97, 34, 98] : List UInt8) && (((rd_T35 t127 2).f2) == 6))) = true then (if 4 < (t127.length : Int) then (if ((rd_T35 t127 4).f1).toList = ([45, 49] : List UInt8) then (if 5 < (t127.length : Int) then (if ((rd_T35 t127 5).f0) = 5 then (if t132.toList = ([98, 97, 114, 32, 51, 32, 34, 97, 92, 34, 98, 34, 32, 124, 32, 45, 49, 10] : List UInt8) then (if t133 = 0 then (if bt134.1.toList = ([34, 97, 92, 110, 98, 34] : List UInt8) then (if bt134.2 = 0 then (if bt136.2.1 = 2 then (some (bt136.2.2 == 180)) else none) else none) else none) else none) else none) else none) else (none)) else none) else (none)) else none) else (none)) else none) else none) else none))) = some r := H
 have A2 := Aside0.mk A20
 clear A20
 replace H := Option.bind_eq_some_iff.mp H
 obtain ⟨⟨t134, t135⟩, A30, H⟩ := H
 replace H : ((lex_Tokens.f k (⟨#[97, 32, 48, 48, 55]⟩ : ByteArray)).bind fun bt136 => (if t128 = 0 then (if t129 = 0 then (if (t127.length : Int) = 6 then (if 2 < (t127.length : Int) then (if (((rd_T35 t127 2).f0) == 3 && ((((rd_T35 t127 2).f1).toList) == ([97, 34, 98] : List UInt8) && (((rd_T35 t127 2).f2) == 6))) = true then (if 4 < (t127.length : Int) then (if ((rd_T35 t127 4).f1).toList = ([45, 49] : List UInt8) then (if 5 < (t127.length : Int) then (if ((rd_T35 t127 5).f0) = 5 then (if t132.toList = ([98, 97, 114, 32, 51, 32, 34, 97, 92, 34, 98, 34, 32, 124, 32, 45, 49, 10] : List UInt8) then (if t133 = 0 then (if t134.toList = ([34, 97, 92, 110, 98, 34] : List UInt8) then (if t135 = 0 then (if bt136.2.1 = 2 then (some (bt136.2.2 == 180)) else none) else none) else none) else none) else none) else none) else (none)) else none) else (none)) else none) else (none)) else none) else none) else none)) = some r := H
 have A3 := Aside0.mk A30
 clear A30
 replace H := Option.bind_eq_some_iff.mp H
 obtain ⟨⟨t136, t137, t138⟩, A40, H⟩ := H
 replace H : (if t128 = 0 then (if t129 = 0 then (if (t127.length : Int) = 6 then (if 2 < (t127.length : Int) then (if (((rd_T35 t127 2).f0) == 3 && ((((rd_T35 t127 2).f1).toList) == ([97, 34, 98] : List UInt8) && (((rd_T35 t127 2).f2) == 6))) = true then (if 4 < (t127.length : Int) then (if ((rd_T35 t127 4).f1).toList = ([45, 49] : List UInt8) then (if 5 < (t127.length : Int) then (if ((rd_T35 t127 5).f0) = 5 then (if t132.toList = ([98, 97, 114, 32, 51, 32, 34, 97, 92, 34, 98, 34, 32, 124, 32, 45, 49, 10] : List UInt8) then (if t133 = 0 then (if t134.toList = ([34, 97, 92, 110, 98, 34] : List UInt8) then (if t135 = 0 then (if t137 = 2 then (some (t138 == 180)) else none) else none) else none) else none) else none) else none) else (none)) else none) else (none)) else none) else (none)) else none) else none) else none) = some r := H
 have A4 := Aside0.mk A40
 clear A40
 by_cases c5 : t128 = 0
 · rw [if_pos c5] at H
   have c5b0 : (t128 == 0) = true := beq_iff_eq.mpr c5
   have c5b1 : (t128 != 0) = false := bne_eq_false_iff_eq.mpr c5
   clear c5
   by_cases c6 : t129 = 0
   · rw [if_pos c6] at H
     have c6b0 : (t129 == 0) = true := beq_iff_eq.mpr c6
     have c6b1 : (t129 != 0) = false := bne_eq_false_iff_eq.mpr c6
     clear c6
     by_cases c7 : (t127.length : Int) = 6
     · rw [if_pos c7] at H
       have c7b0 : ((t127.length : Int) == 6) = true := beq_iff_eq.mpr c7
       have c7b1 : ((t127.length : Int) != 6) = false := bne_eq_false_iff_eq.mpr c7
       clear c7
       by_cases c8 : 2 < (t127.length : Int)
       · rw [if_pos c8] at H
         have c8b0 : decide (2 < (t127.length : Int)) = true := decide_eq_true c8
         have c8b1 : decide (2 < t127.length) = true := decide_eq_true (by omega)
         clear c8
         by_cases c9 : (((rd_T35 t127 2).f0) == 3 && ((((rd_T35 t127 2).f1).toList) == ([97, 34, 98] : List UInt8) && (((rd_T35 t127 2).f2) == 6))) = true
         · rw [if_pos c9] at H
           have c9b0 : (((rd_T35 t127 2).f0) == 3 && ((((rd_T35 t127 2).f1).toList) == ([97, 34, 98] : List UInt8) && (((rd_T35 t127 2).f2) == 6))) = true := c9
           (try (have c9b1 : decide (((rd_T35 t127 2).f0) = 3 && ((((rd_T35 t127 2).f1).toList) == ([97, 34, 98] : List UInt8) && (((rd_T35 t127 2).f2) == 6))) = true := by simpa using c9))
           (try (have c9b2 : (((rd_T35 t127 2).f0) == 3 && ((((rd_T35 t127 2).f1).toList) == ([97, 34, 98] : List UInt8) && (((rd_T35 t127 2).f2) == 6))) = true := by simpa using c9))
           clear c9
           by_cases c10 : 4 < (t127.length : Int)
           · rw [if_pos c10] at H
             have c10b0 : decide (4 < (t127.length : Int)) = true := decide_eq_true c10
             have c10b1 : decide (4 < t127.length) = true := decide_eq_true (by omega)
             clear c10
             by_cases c11 : ((rd_T35 t127 4).f1).toList = ([45, 49] : List UInt8)
             · rw [if_pos c11] at H
               have c11b0 : (((rd_T35 t127 4).f1).toList == ([45, 49] : List UInt8)) = true := beq_iff_eq.mpr c11
               have c11b1 : (((rd_T35 t127 4).f1).toList != ([45, 49] : List UInt8)) = false := bne_eq_false_iff_eq.mpr c11
               clear c11
               by_cases c12 : 5 < (t127.length : Int)
               · rw [if_pos c12] at H
                 have c12b0 : decide (5 < (t127.length : Int)) = true := decide_eq_true c12
                 have c12b1 : decide (5 < t127.length) = true := decide_eq_true (by omega)
                 clear c12
                 by_cases c13 : ((rd_T35 t127 5).f0) = 5
                 · rw [if_pos c13] at H
                   have c13b0 : (((rd_T35 t127 5).f0) == 5) = true := beq_iff_eq.mpr c13
                   have c13b1 : (((rd_T35 t127 5).f0) != 5) = false := bne_eq_false_iff_eq.mpr c13
                   clear c13
                   by_cases c14 : t132.toList = ([98, 97, 114, 32, 51, 32, 34, 97, 92, 34, 98, 34, 32, 124, 32, 45, 49, 10] : List UInt8)
                   · rw [if_pos c14] at H
                     have c14b0 : (t132.toList == ([98, 97, 114, 32, 51, 32, 34, 97, 92, 34, 98, 34, 32, 124, 32, 45, 49, 10] : List UInt8)) = true := beq_iff_eq.mpr c14
                     have c14b1 : (t132.toList != ([98, 97, 114, 32, 51, 32, 34, 97, 92, 34, 98, 34, 32, 124, 32, 45, 49, 10] : List UInt8)) = false := bne_eq_false_iff_eq.mpr c14
                     clear c14
                     by_cases c15 : t133 = 0
                     · rw [if_pos c15] at H
                       have c15b0 : (t133 == 0) = true := beq_iff_eq.mpr c15
                       have c15b1 : (t133 != 0) = false := bne_eq_false_iff_eq.mpr c15
                       clear c15
                       by_cases c16 : t134.toList = ([34, 97, 92, 110, 98, 34] : List UInt8)
                       · rw [if_pos c16] at H
                         have c16b0 : (t134.toList == ([34, 97, 92, 110, 98, 34] : List UInt8)) = true := beq_iff_eq.mpr c16
                         have c16b1 : (t134.toList != ([34, 97, 92, 110, 98, 34] : List UInt8)) = false := bne_eq_false_iff_eq.mpr c16
                         clear c16
                         by_cases c17 : t135 = 0
                         · rw [if_pos c17] at H
                           have c17b0 : (t135 == 0) = true := beq_iff_eq.mpr c17
                           have c17b1 : (t135 != 0) = false := bne_eq_false_iff_eq.mpr c17
                           clear c17
                           by_cases c18 : t137 = 2
                           · rw [if_pos c18] at H
                             have c18b0 : (t137 == 2) = true := beq_iff_eq.mpr c18
                             have c18b1 : (t137 != 2) = false := bne_eq_false_iff_eq.mpr c18
                             clear c18
                             obtain rfl := Option.some.inj H
                             go_enter Tryd.func12, Tryd.ntmps12
                             go_wp2_with (first | ((with_reducible refine gate_callee (f := 13) rfl ?_); refine goesL_ (some 12) rfl rfl Tryd.func13 (by kernel_rfl) rfl #[.string (⟨#[98, 97, 114, 32, 51, 32, 34, 97, 92, 34, 98, 34, 32, 124, 32, 45, 49, 32, 35, 32, 120, 10]⟩ : ByteArray)] rfl (by (try simp only [List.map_toArray, List.map_cons, List.map_nil]); first | done | rfl | (simp only [List.length_drop, List.length_take]; rfl)) ?_; (with_reducible refine (lex_Tokens.calls k (⟨#[98, 97, 114, 32, 51, 32, 34, 97, 92, 34, 98, 34, 32, 124, 32, 45, 49, 32, 35, 32, 120, 10]⟩ : ByteArray) t127 t128 t129 _ A1.out).mono ?_); rintro e w19 ⟨v130, rfl, ho0, hb⟩; refine ⟨_, rfl, ?_⟩; have n0_ := Aside0.mk (Kd.R_lower ho0 (below_size (by repeat (first | (with_reducible first | exact HB.out | apply below_alloc | apply pw_below_drewN | apply below_drew1) | exact HB.out)))); have n1_ := Aside0.mk (below_step (by repeat (first | (with_reducible first | exact HB.out | apply below_alloc | apply pw_below_drewN | apply below_drew1) | exact HB.out)) hb); clear HB; have HO131 := n0_; have HB := n1_; clear n0_ n1_; (try clear hb); (try clear hb2); (try clear hk); (try clear hi); (try clear ho0); obtain ⟨Ao20, co20, eo20⟩ := Kd.R_slice HO131.out; subst eo20) | ((with_reducible refine gate_callee (f := 17) rfl ?_); refine goesL_ (some 18) rfl rfl Tryd.func17 (by kernel_rfl) rfl #[.slice Ao20 t127.length co20] rfl (by (try simp only [List.map_toArray, List.map_cons, List.map_nil]); first | done | rfl | (simp only [List.length_drop, List.length_take]; rfl)) ?_; (with_reducible refine (lex_Print.calls _ _ t127 t132 t133 _ ?side1 ?side2 A2.out).mono ?_); (case side1 => repeat (first | exact (Kd.R_reads' HO131.out).2.2 | (with_reducible refine Kd.C_alloc ?_ _) | (with_reducible refine Kd.C_drewN ?_ _) | (with_reducible refine Kd.C_drew ?_))); (case side2 => exact (Kd.R_reads' HO131.out).2.1); rintro e w21 ⟨rfl, hb⟩; refine ⟨_, rfl, ?_⟩; have n0_ := Aside0.mk (Kd.R_below (qR HO131.out) hb); have n1_ := Aside0.mk (below_step (by repeat (first | (with_reducible first | exact HB.out | apply below_alloc | apply pw_below_drewN | apply below_drew1) | exact HB.out)) hb); clear HO131; clear HB; have HO131 := n0_; have HB := n1_; clear n0_ n1_; (try clear hb); (try clear hb2); (try clear hk); (try clear hi)) | ((with_reducible refine gate_callee (f := 19) rfl ?_); refine goesL_ (some 22) rfl rfl Tryd.func19 (by kernel_rfl) rfl #[.string (⟨#[97, 10, 98]⟩ : ByteArray)] rfl (by (try simp only [List.map_toArray, List.map_cons, List.map_nil]); first | done | rfl | (simp only [List.length_drop, List.length_take]; rfl)) ?_; (with_reducible refine (lex_Quote.calls (⟨#[97, 10, 98]⟩ : ByteArray) t134 t135 _ A3.out).mono ?_); rintro e w22 ⟨rfl, hb⟩; refine ⟨_, rfl, ?_⟩; have n0_ := Aside0.mk (Kd.R_below (qR HO131.out) hb); have n1_ := Aside0.mk (below_step (by repeat (first | (with_reducible first | exact HB.out | apply below_alloc | apply pw_below_drewN | apply below_drew1) | exact HB.out)) hb); clear HO131; clear HB; have HO131 := n0_; have HB := n1_; clear n0_ n1_; (try clear hb); (try clear hb2); (try clear hk); (try clear hi)) | ((with_reducible refine gate_callee (f := 13) rfl ?_); refine goesL_ (some 26) rfl rfl Tryd.func13 (by kernel_rfl) rfl #[.string (⟨#[97, 32, 48, 48, 55]⟩ : ByteArray)] rfl (by (try simp only [List.map_toArray, List.map_cons, List.map_nil]); first | done | rfl | (simp only [List.length_drop, List.length_take]; rfl)) ?_; (with_reducible refine (lex_Tokens.calls k (⟨#[97, 32, 48, 48, 55]⟩ : ByteArray) t136 t137 t138 _ A4.out).mono ?_); rintro e w23 ⟨v139, rfl, ho0, hb⟩; refine ⟨_, rfl, ?_⟩; have n0_ := Aside0.mk (Kd.R_elder' (qR HO131.out) (Kd.R_base ho0) hb); have n1_ := Aside0.mk (Kd.R_lower (Kd.R_new' ho0 (Kd.R_lt (qR HO131.out))) (below_size (by repeat (first | (with_reducible first | exact HB.out | apply below_alloc | apply pw_below_drewN | apply below_drew1) | exact HB.out)))); have n2_ := Aside0.mk (below_step (by repeat (first | (with_reducible first | exact HB.out | apply below_alloc | apply pw_below_drewN | apply below_drew1) | exact HB.out)) hb); clear HO131; clear HB; have HO131 := n0_; have HO140 := n1_; have HB := n2_; clear n0_ n1_ n2_; (try clear hb); (try clear hb2); (try clear hk); (try clear hi); (try clear ho0); have p141 : 0 ≤ (2 : Int) := (by omega); have q141 : 2 < (t127.length : Int) := of_decide_eq_true (by first | (with_reducible assumption) | assumption); obtain ⟨ad141, e141, hx141_0, hx141_1, hx141_2⟩ := at_T35 (Kd.R_reads' HO131.out).2.2 2 p141 q141; cases e141; (try simp only [show (2 : Int).toNat = 2 from rfl, Nat.reduceMul, Nat.reduceEqDiff, Go.Addr.add, ↓reduceIte] at hx141_0); (try simp only [show (2 : Int).toNat = 2 from rfl, Nat.reduceMul, Nat.reduceEqDiff, Go.Addr.add, ↓reduceIte] at hx141_1); (try simp only [show (2 : Int).toNat = 2 from rfl, Nat.reduceMul, Nat.reduceEqDiff, Go.Addr.add, ↓reduceIte] at hx141_2); have qi141 : (2 < t127.length) = True := eq_true (by omega); (try rw [show ((2 : Int)).toNat = 2 from rfl] at hx141_0); (try rw [show 2 * 3 = 6 from rfl] at hx141_0); (try rw [show ((2 : Int)).toNat = 2 from rfl] at hx141_1); (try rw [show 2 * 3 = 6 from rfl] at hx141_1); (try rw [show ((2 : Int)).toNat = 2 from rfl] at hx141_2); (try rw [show 2 * 3 = 6 from rfl] at hx141_2); replace p141 := eq_true p141; replace q141 := eq_true q141; have p142 : 0 ≤ (4 : Int) := (by omega); have q142 : 4 < (t127.length : Int) := of_decide_eq_true (by first | (with_reducible assumption) | assumption); obtain ⟨ad142, e142, hx142_0, hx142_1, hx142_2⟩ := at_T35 (Kd.R_reads' HO131.out).2.2 4 p142 q142; obtain rfl : ad141 = ad142 := (by injection e142); (try simp only [show (4 : Int).toNat = 4 from rfl, Nat.reduceMul, Nat.reduceEqDiff, Go.Addr.add, ↓reduceIte] at hx142_0); (try simp only [show (4 : Int).toNat = 4 from rfl, Nat.reduceMul, Nat.reduceEqDiff, Go.Addr.add, ↓reduceIte] at hx142_1); (try simp only [show (4 : Int).toNat = 4 from rfl, Nat.reduceMul, Nat.reduceEqDiff, Go.Addr.add, ↓reduceIte] at hx142_2); have qi142 : (4 < t127.length) = True := eq_true (by omega); (try rw [show ((4 : Int)).toNat = 4 from rfl] at hx142_0); (try rw [show 4 * 3 = 12 from rfl] at hx142_0); (try rw [show ((4 : Int)).toNat = 4 from rfl] at hx142_1); (try rw [show 4 * 3 = 12 from rfl] at hx142_1); (try rw [show ((4 : Int)).toNat = 4 from rfl] at hx142_2); (try rw [show 4 * 3 = 12 from rfl] at hx142_2); replace p142 := eq_true p142; replace q142 := eq_true q142; have p143 : 0 ≤ (5 : Int) := (by omega); have q143 : 5 < (t127.length : Int) := of_decide_eq_true (by first | (with_reducible assumption) | assumption); obtain ⟨ad143, e143, hx143_0, hx143_1, hx143_2⟩ := at_T35 (Kd.R_reads' HO131.out).2.2 5 p143 q143; obtain rfl : ad141 = ad143 := (by injection e143); (try simp only [show (5 : Int).toNat = 5 from rfl, Nat.reduceMul, Nat.reduceEqDiff, Go.Addr.add, ↓reduceIte] at hx143_0); (try simp only [show (5 : Int).toNat = 5 from rfl, Nat.reduceMul, Nat.reduceEqDiff, Go.Addr.add, ↓reduceIte] at hx143_1); (try simp only [show (5 : Int).toNat = 5 from rfl, Nat.reduceMul, Nat.reduceEqDiff, Go.Addr.add, ↓reduceIte] at hx143_2); have qi143 : (5 < t127.length) = True := eq_true (by omega); (try rw [show ((5 : Int)).toNat = 5 from rfl] at hx143_0); (try rw [show 5 * 3 = 15 from rfl] at hx143_0); (try rw [show ((5 : Int)).toNat = 5 from rfl] at hx143_1); (try rw [show 5 * 3 = 15 from rfl] at hx143_1); (try rw [show ((5 : Int)).toNat = 5 from rfl] at hx143_2); (try rw [show 5 * 3 = 15 from rfl] at hx143_2); replace p143 := eq_true p143; replace q143 := eq_true q143))
                             go_ret
                             exact ⟨by first | rfl | (simp [errW_none, errW_some] <;> rfl) | (simp [*, errW_none, errW_some] <;> rfl), by repeat (first | (with_reducible first | exact HB.out | apply below_alloc | apply pw_below_drewN | apply below_drew1) | exact HB.out)⟩
                           · rw [if_neg c18] at H
                             cases H
                         · rw [if_neg c17] at H
                           cases H
                       · rw [if_neg c16] at H
                         cases H
                     · rw [if_neg c15] at H
                       cases H
                   · rw [if_neg c14] at H
                     cases H
                 · rw [if_neg c13] at H
                   cases H
               · rw [if_neg c12] at H
                 exact absurd H (by simp)
             · rw [if_neg c11] at H
               cases H
           · rw [if_neg c10] at H
             exact absurd H (by simp)
         · rw [if_neg c9] at H
           cases H
       · rw [if_neg c8] at H
         exact absurd H (by simp)
     · rw [if_neg c7] at H
       cases H
   · rw [if_neg c6] at H
     cases H
 · rw [if_neg c5] at H
   cases H
end Go.Proofs.YtllccnijipgncaaDoor.Q
