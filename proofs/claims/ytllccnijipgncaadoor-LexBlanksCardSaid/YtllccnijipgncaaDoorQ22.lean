-- Written by a program of this session (myprint.py), function by function.
import Derived.Test.YtllccnijipgncaaDoorQ0
import Derived.Test.YtllccnijipgncaaDoorQ4
import Derived.Test.YtllccnijipgncaaDoorQ5
import Derived.Test.YtllccnijipgncaaDoorQ6
import Derived.Test.YtllccnijipgncaaDoorQ11
import Derived.Test.YtllccnijipgncaaDoorQ13
import Derived.Test.YtllccnijipgncaaDoorQ17
namespace Go.Proofs.YtllccnijipgncaaDoor.Q
open Go.RowKit Go.Proofs.YtllccnijipgncaaDoorW.PrintWords Go.Proofs.YtllccnijipgncaaDoorW.PrintLast Go.Proofs.YtllccnijipgncaaDoorW.PrintMore
attribute [local go_sem] max2_int min2_int max_two min_two max_three min_three max_four min_four   -- for this text's walks alone
set_option linter.unusedVariables false
set_option linter.unusedSimpArgs false

/-! ### partitalaw18_LexBlanks: function 10 -/
def partitalaw18_LexBlanks.l0 : Nat → List (S35) → Int → Bool → ByteArray → Int → Option (Bool)
 | 0, _, _, _, _, _ => none
 | k + 1, x0, x1, x5, x6, x7 => if x7 < (x0.length : Int) then (if 0 ≤ x7 then (if x7 ≤ (wrap64 (x7 + 1)) then (if (wrap64 (x7 + 1)) ≤ (x0.length : Int) then ((lex_Print.f ((x0.take ((wrap64 (x7 + 1)) : Int).toNat).drop (x7 : Int).toNat)).bind fun bt326 => (if bt326.2 = 0 then (if ((rd_T35 x0 x7).f0) = 5 then (if (Int.tmod x1 2) = 1 then (if x6.size + 12 ≤ 9223372036854775807 then (if (x6 ++ (⟨#[32, 35, 32, 34, 110, 111, 32, 112, 105, 101, 99, 101]⟩ : ByteArray)).size + 2 ≤ 9223372036854775807 then (if ((x6 ++ (⟨#[32, 35, 32, 34, 110, 111, 32, 112, 105, 101, 99, 101]⟩ : ByteArray)) ++ (⟨#[32, 9]⟩ : ByteArray)).size + bt326.1.size ≤ 9223372036854775807 then (if (((x6 ++ (⟨#[32, 35, 32, 34, 110, 111, 32, 112, 105, 101, 99, 101]⟩ : ByteArray)) ++ (⟨#[32, 9]⟩ : ByteArray)) ++ bt326.1).size + 2 ≤ 9223372036854775807 then (partitalaw18_LexBlanks.l0 k x0 x1 x5 ((((x6 ++ (⟨#[32, 35, 32, 34, 110, 111, 32, 112, 105, 101, 99, 101]⟩ : ByteArray)) ++ (⟨#[32, 9]⟩ : ByteArray)) ++ bt326.1) ++ (⟨#[13, 32]⟩ : ByteArray)) (wrap64 (x7 + 1))) else (none)) else (none)) else (none)) else (none)) else (if x6.size + 2 ≤ 9223372036854775807 then (if (x6 ++ (⟨#[32, 9]⟩ : ByteArray)).size + bt326.1.size ≤ 9223372036854775807 then (if ((x6 ++ (⟨#[32, 9]⟩ : ByteArray)) ++ bt326.1).size + 2 ≤ 9223372036854775807 then (partitalaw18_LexBlanks.l0 k x0 x1 x5 (((x6 ++ (⟨#[32, 9]⟩ : ByteArray)) ++ bt326.1) ++ (⟨#[13, 32]⟩ : ByteArray)) (wrap64 (x7 + 1))) else (none)) else (none)) else (none))) else (if x6.size + 2 ≤ 9223372036854775807 then (if (x6 ++ (⟨#[32, 9]⟩ : ByteArray)).size + bt326.1.size ≤ 9223372036854775807 then (if ((x6 ++ (⟨#[32, 9]⟩ : ByteArray)) ++ bt326.1).size + 2 ≤ 9223372036854775807 then (partitalaw18_LexBlanks.l0 k x0 x1 x5 (((x6 ++ (⟨#[32, 9]⟩ : ByteArray)) ++ bt326.1) ++ (⟨#[13, 32]⟩ : ByteArray)) (wrap64 (x7 + 1))) else (none)) else (none)) else (none))) else (some x5))) else (none)) else (none)) else (none)) else ((lex_Tokens.f k x6).bind fun bt329 => (if x5 = true then (if bt329.2.2 = 0 then ((partitaref18_Bare.f k bt329.1).bind fun t334 => ((partitaref18_Bare.f k x0).bind fun t337 => ((partitaref18_Same.f k t334 t337).bind fun t340 => (some t340)))) else none) else none))
def partitalaw18_LexBlanks.f (k : Nat) (l0 : List (S35)) (a1 : Int) : Option (Bool) := (partitalaw18_awake.f k).bind fun t320 => ((partitaref18_Few.f k l0).bind fun t321 => (if t321 = true then (partitalaw18_LexBlanks.l0 k l0 a1 t320 (⟨#[]⟩ : ByteArray) 0) else (some t320)))
theorem partitalaw18_LexBlanks.mono_l : ∀ k, (∀ y0 y1 y2 y3 y4, LeO (partitalaw18_LexBlanks.l0 k y0 y1 y2 y3 y4) (partitalaw18_LexBlanks.l0 (k + 1) y0 y1 y2 y3 y4))
 | 0 => fun _ _ _ _ _ r h => by simp [partitalaw18_LexBlanks.l0] at h
 | k + 1 => by
  have ih0 := partitalaw18_LexBlanks.mono_l k
  · intro y0 y1 y2 y3 y4
    unfold partitalaw18_LexBlanks.l0
    repeat' first
    | (with_reducible exact ih0 _ _ _ _ _)
    | (with_reducible exact lex_Tokens.mono _ _)
    | (with_reducible exact partitalaw18_awake.mono _)
    | (with_reducible exact partitaref18_Bare.mono _ _)
    | (with_reducible exact partitaref18_Few.mono _ _)
    | (with_reducible exact partitaref18_Same.mono _ _ _)
    | (with_reducible exact LeO.refl _)
    | (with_reducible exact LeO.none _)
    | (with_reducible refine LeO.ite ?_ ?_)
    | (with_reducible refine LeO.bind ?_ (fun _ => ?_))
    | exact ih0 _ _ _ _ _
    | exact lex_Tokens.mono _ _
    | exact partitalaw18_awake.mono _
    | exact partitaref18_Bare.mono _ _
    | exact partitaref18_Few.mono _ _
    | exact partitaref18_Same.mono _ _ _
    | exact LeO.none _
    | refine LeO.ite ?_ ?_
    | refine LeO.bind ?_ (fun _ => ?_)
theorem partitalaw18_LexBlanks.mono : ∀ a0 a1 k, LeO (partitalaw18_LexBlanks.f k a0 a1) (partitalaw18_LexBlanks.f (k + 1) a0 a1) := by
 intro a0 a1 k
 have ih0 := partitalaw18_LexBlanks.mono_l k
 unfold partitalaw18_LexBlanks.f
 repeat' first
  | (with_reducible exact ih0 _ _ _ _ _)
  | (with_reducible exact lex_Tokens.mono _ _)
  | (with_reducible exact partitalaw18_awake.mono _)
  | (with_reducible exact partitaref18_Bare.mono _ _)
  | (with_reducible exact partitaref18_Few.mono _ _)
  | (with_reducible exact partitaref18_Same.mono _ _ _)
  | (with_reducible exact LeO.refl _)
  | (with_reducible exact LeO.none _)
  | (with_reducible refine LeO.ite ?_ ?_)
  | (with_reducible refine LeO.bind ?_ (fun _ => ?_))
  | exact ih0 _ _ _ _ _
  | exact lex_Tokens.mono _ _
  | exact partitalaw18_awake.mono _
  | exact partitaref18_Bare.mono _ _
  | exact partitaref18_Few.mono _ _
  | exact partitaref18_Same.mono _ _ _
  | exact LeO.none _
  | refine LeO.ite ?_ ?_
  | refine LeO.bind ?_ (fun _ => ?_)
set_option maxHeartbeats 8000000 in
set_option maxRecDepth 100000 in
theorem partitalaw18_LexBlanks.calls (k : Nat) (A0 : Option Addr) (c0 : Nat) (l0 : List (S35)) (a1 : Int) (r : Bool) (w : World) (hr0 : Kd.C k35 w A0 l0.length l0) (hc0 : l0.length ≤ c0) (h : partitalaw18_LexBlanks.f k l0 a1 = some r) (TABS : Aside0 (TabsW w) := by exact tabs_step (by assumption) (by repeat (first | (with_reducible first | exact (by assumption : Aside0 (Below _ _ _)).out | apply below_alloc | apply pw_below_drewN | apply below_drew1)))) :
 Calls Tryd.prog 10 #[.slice A0 l0.length c0, .int .u8 a1] w fun e w' => e = .returned (.bool r) ∧ Below w.heap.size w w' := by
 have HR0 := Aside0.mk hr0
 have HC0 := Aside0.mk hc0
 clear hr0 hc0
 have HB := Aside0.mk (Below.refl w.heap.size w)
 have H : ((partitalaw18_awake.f k).bind fun t320 => ((partitaref18_Few.f k l0).bind fun t321 => (if t321 = true then (partitalaw18_LexBlanks.l0 k l0 a1 t320 (⟨#[]⟩ : ByteArray) 0) else (some t320)))) = some r := h
 clear h
 replace H := Option.bind_eq_some_iff.mp H
 obtain ⟨t320, A30, H⟩ := H
 replace H : ((partitaref18_Few.f k l0).bind fun t321 => (if t321 = true then (partitalaw18_LexBlanks.l0 k l0 a1 t320 (⟨#[]⟩ : ByteArray) 0) else (some t320))) = some r := H
 have A3 := Aside0.mk A30
 clear A30
 replace H := Option.bind_eq_some_iff.mp H
 obtain ⟨t321, A40, H⟩ := H
 replace H : (if t321 = true then (partitalaw18_LexBlanks.l0 k l0 a1 t320 (⟨#[]⟩ : ByteArray) 0) else (some t320)) = some r := H
 have A4 := Aside0.mk A40
 clear A40
 by_cases c5 : t321 = true
 · subst c5
   have H1 : (partitalaw18_LexBlanks.l0 k l0 a1 t320 (⟨#[]⟩ : ByteArray) 0) = some r := by rw [if_pos rfl] at H; exact H
   clear H
   have H := H1
   clear H1
   have H' := Aside0.mk H
   clear H
   go_enter Tryd.func10, Tryd.ntmps10
   go_wp2_with (first | ((with_reducible refine gate_callee (f := 12) rfl ?_); refine goesL_ (some 13) rfl rfl Tryd.func12 (by kernel_rfl) rfl #[] rfl (by (try simp only [List.map_toArray, List.map_cons, List.map_nil]); first | done | rfl | (simp only [List.length_drop, List.length_take]; rfl)) ?_; (with_reducible refine (partitalaw18_awake.calls k  t320 _ A3.out).mono ?_); rintro e w6 ⟨rfl, hb⟩; refine ⟨_, rfl, ?_⟩; have n0_ := Aside0.mk (below_step (by repeat (first | (with_reducible first | exact HB.out | apply below_alloc | apply pw_below_drewN | apply below_drew1) | exact HB.out)) hb); clear HB; have HB := n0_; clear n0_; (try clear hb); (try clear hb2); (try clear hk); (try clear hi)) | ((with_reducible refine gate_callee (f := 16) rfl ?_); refine goesL_ (some 15) rfl rfl Tryd.func16 (by kernel_rfl) rfl #[.slice A0 l0.length c0] rfl (by (try simp only [List.map_toArray, List.map_cons, List.map_nil]); first | done | rfl | (simp only [List.length_drop, List.length_take]; rfl)) ?_; (with_reducible refine (partitaref18_Few.calls k _ _ l0 true _ ?side1 ?side2 A4.out).mono ?_); (case side1 => repeat (first | exact (Kd.C_below HR0.out HB.out) | (with_reducible refine Kd.C_alloc ?_ _) | (with_reducible refine Kd.C_drewN ?_ _) | (with_reducible refine Kd.C_drew ?_))); (case side2 => exact HC0.out); rintro e w' ⟨rfl, ⟨nd, rfl⟩⟩; refine ⟨_, rfl, ?_⟩))
   go_loopg [6, 7] k (fun kq v6 v7 w' => ∃ (x6_1 : ByteArray) (x7_1 : Int), v6 = .string x6_1 ∧ v7 = .int .i64 x7_1 ∧ Aside0 (partitalaw18_LexBlanks.l0 kq l0 a1 t320 x6_1 x7_1 = some r) ∧ Aside0 (kq ≤ k) ∧ Aside0 (Below w.heap.size w w'))
   case atStart => exact ⟨((⟨#[]⟩ : ByteArray)), (0), (by first | rfl | (simp; done) | (simp [*]; done) | (simp [wrap64]; done)), (by first | rfl | (simp; done) | (simp [*]; done) | (simp [wrap64]; done)), H', ⟨Nat.le_refl _⟩, ⟨by repeat (first | (with_reducible first | exact HB.out | apply below_alloc | apply pw_below_drewN | apply below_drew1) | exact HB.out)⟩⟩
   case round =>
    clear H'
    try clear c1
    try clear p2
    try clear c5
    obtain ⟨x6_1, x7_1, rfl, rfl, HA, HK1, HB⟩ := hrel
    cases gk with
    | zero => exact absurd HA.out (by simp [partitalaw18_LexBlanks.l0])
    | succ k1 =>
     have H := HA.out
     clear HA
     simp only [partitalaw18_LexBlanks.l0] at H
     by_cases c7 : x7_1 < (l0.length : Int)
     · rw [if_pos c7] at H
       have c7b0 : decide (x7_1 < (l0.length : Int)) = true := decide_eq_true c7
       clear c7
       by_cases c8 : 0 ≤ x7_1
       · rw [if_pos c8] at H
         have c8b0 := eq_true c8
         have c8b1 : decide (0 ≤ x7_1) = true := decide_eq_true c8
         clear c8
         by_cases c9 : x7_1 ≤ (wrap64 (x7_1 + 1))
         · rw [if_pos c9] at H
           have c9b0 := eq_true c9
           have c9b1 : decide (x7_1 ≤ (wrap64 (x7_1 + 1))) = true := decide_eq_true c9
           by_cases c10 : (wrap64 (x7_1 + 1)) ≤ (l0.length : Int)
           · rw [if_pos c10] at H
             have c10b0 := eq_true c10
             have c10b1 : decide ((wrap64 (x7_1 + 1)) ≤ (l0.length : Int)) = true := decide_eq_true c10
             obtain ⟨y322, hy322⟩ : ∃ y_ : List (S35), y_ = ((l0.take ((wrap64 (x7_1 + 1)) : Int).toNat).drop (x7_1 : Int).toNat) := ⟨_, rfl⟩
             replace H : ((lex_Print.f y322).bind fun bt326 => (if bt326.2 = 0 then (if ((rd_T35 l0 x7_1).f0) = 5 then (if (Int.tmod a1 2) = 1 then (if x6_1.size + 12 ≤ 9223372036854775807 then (if (x6_1 ++ (⟨#[32, 35, 32, 34, 110, 111, 32, 112, 105, 101, 99, 101]⟩ : ByteArray)).size + 2 ≤ 9223372036854775807 then (if ((x6_1 ++ (⟨#[32, 35, 32, 34, 110, 111, 32, 112, 105, 101, 99, 101]⟩ : ByteArray)) ++ (⟨#[32, 9]⟩ : ByteArray)).size + bt326.1.size ≤ 9223372036854775807 then (if (((x6_1 ++ (⟨#[32, 35, 32, 34, 110, 111, 32, 112, 105, 101, 99, 101]⟩ : ByteArray)) ++ (⟨#[32, 9]⟩ : ByteArray)) ++ bt326.1).size + 2 ≤ 9223372036854775807 then (partitalaw18_LexBlanks.l0 k1 l0 a1 t320 ((((x6_1 ++ (⟨#[32, 35, 32, 34, 110, 111, 32, 112, 105, 101, 99, 101]⟩ : ByteArray)) ++ (⟨#[32, 9]⟩ : ByteArray)) ++ bt326.1) ++ (⟨#[13, 32]⟩ : ByteArray)) (wrap64 (x7_1 + 1))) else (none)) else (none)) else (none)) else (none)) else (if x6_1.size + 2 ≤ 9223372036854775807 then (if (x6_1 ++ (⟨#[32, 9]⟩ : ByteArray)).size + bt326.1.size ≤ 9223372036854775807 then (if ((x6_1 ++ (⟨#[32, 9]⟩ : ByteArray)) ++ bt326.1).size + 2 ≤ 9223372036854775807 then (partitalaw18_LexBlanks.l0 k1 l0 a1 t320 (((x6_1 ++ (⟨#[32, 9]⟩ : ByteArray)) ++ bt326.1) ++ (⟨#[13, 32]⟩ : ByteArray)) (wrap64 (x7_1 + 1))) else (none)) else (none)) else (none))) else (if x6_1.size + 2 ≤ 9223372036854775807 then (if (x6_1 ++ (⟨#[32, 9]⟩ : ByteArray)).size + bt326.1.size ≤ 9223372036854775807 then (if ((x6_1 ++ (⟨#[32, 9]⟩ : ByteArray)) ++ bt326.1).size + 2 ≤ 9223372036854775807 then (partitalaw18_LexBlanks.l0 k1 l0 a1 t320 (((x6_1 ++ (⟨#[32, 9]⟩ : ByteArray)) ++ bt326.1) ++ (⟨#[13, 32]⟩ : ByteArray)) (wrap64 (x7_1 + 1))) else (none)) else (none)) else (none))) else (some t320))) = some r := by first | (rw [hy322]; with_reducible exact H) | (have H2_ := (Option.bind_some _ _).symm.trans H; rw [hy322]; with_reducible exact H2_) | (have H2_ := (Option.bind_some _ _).symm.trans H; with_reducible exact H2_) | with_reducible exact H | (rw [hy322]; exact H) | exact H
             have Ny322 := Aside0.mk hy322
             clear hy322
             replace H := Option.bind_eq_some_iff.mp H
             obtain ⟨⟨t326, t327⟩, A110, H⟩ := H
             replace H : (if t327 = 0 then (if ((rd_T35 l0 x7_1).f0) = 5 then (if (Int.tmod a1 2) = 1 then (if x6_1.size + 12 ≤ 9223372036854775807 then (if (x6_1 ++ (⟨#[32, 35, 32, 34, 110, 111, 32, 112, 105, 101, 99, 101]⟩ : ByteArray)).size + 2 ≤ 9223372036854775807 then (if ((x6_1 ++ (⟨#[32, 35, 32, 34, 110, 111, 32, 112, 105, 101, 99, 101]⟩ : ByteArray)) ++ (⟨#[32, 9]⟩ : ByteArray)).size + t326.size ≤ 9223372036854775807 then (if (((x6_1 ++ (⟨#[32, 35, 32, 34, 110, 111, 32, 112, 105, 101, 99, 101]⟩ : ByteArray)) ++ (⟨#[32, 9]⟩ : ByteArray)) ++ t326).size + 2 ≤ 9223372036854775807 then (partitalaw18_LexBlanks.l0 k1 l0 a1 t320 ((((x6_1 ++ (⟨#[32, 35, 32, 34, 110, 111, 32, 112, 105, 101, 99, 101]⟩ : ByteArray)) ++ (⟨#[32, 9]⟩ : ByteArray)) ++ t326) ++ (⟨#[13, 32]⟩ : ByteArray)) (wrap64 (x7_1 + 1))) else (none)) else (none)) else (none)) else (none)) else (if x6_1.size + 2 ≤ 9223372036854775807 then (if (x6_1 ++ (⟨#[32, 9]⟩ : ByteArray)).size + t326.size ≤ 9223372036854775807 then (if ((x6_1 ++ (⟨#[32, 9]⟩ : ByteArray)) ++ t326).size + 2 ≤ 9223372036854775807 then (partitalaw18_LexBlanks.l0 k1 l0 a1 t320 (((x6_1 ++ (⟨#[32, 9]⟩ : ByteArray)) ++ t326) ++ (⟨#[13, 32]⟩ : ByteArray)) (wrap64 (x7_1 + 1))) else (none)) else (none)) else (none))) else (if x6_1.size + 2 ≤ 9223372036854775807 then (if (x6_1 ++ (⟨#[32, 9]⟩ : ByteArray)).size + t326.size ≤ 9223372036854775807 then (if ((x6_1 ++ (⟨#[32, 9]⟩ : ByteArray)) ++ t326).size + 2 ≤ 9223372036854775807 then (partitalaw18_LexBlanks.l0 k1 l0 a1 t320 (((x6_1 ++ (⟨#[32, 9]⟩ : ByteArray)) ++ t326) ++ (⟨#[13, 32]⟩ : ByteArray)) (wrap64 (x7_1 + 1))) else (none)) else (none)) else (none))) else (some t320)) = some r := H
             have A11 := Aside0.mk A110
             clear A110
             by_cases c12 : t327 = 0
             · rw [if_pos c12] at H
               have c12b0 : (t327 == 0) = true := beq_iff_eq.mpr c12
               have c12b1 : (t327 != 0) = false := bne_eq_false_iff_eq.mpr c12
               clear c12
               by_cases c13 : ((rd_T35 l0 x7_1).f0) = 5
               · rw [if_pos c13] at H
                 have c13b0 : (((rd_T35 l0 x7_1).f0) == 5) = true := beq_iff_eq.mpr c13
                 have c13b1 : (((rd_T35 l0 x7_1).f0) != 5) = false := bne_eq_false_iff_eq.mpr c13
                 clear c13
                 by_cases c14 : (Int.tmod a1 2) = 1
                 · rw [if_pos c14] at H
                   have c14b0 : ((Int.tmod a1 2) == 1) = true := beq_iff_eq.mpr c14
                   have c14b1 : ((Int.tmod a1 2) != 1) = false := bne_eq_false_iff_eq.mpr c14
                   clear c14
                   by_cases c15 : x6_1.size + 12 ≤ 9223372036854775807
                   · rw [if_pos c15] at H
                     have c15b0 := eq_true c15
                     have c15b1 : decide (x6_1.size + 12 ≤ 9223372036854775807) = true := decide_eq_true c15
                     try have c15b2 : (9223372036854775807 < x6_1.size + 12) = False := eq_false (Nat.not_lt.2 c15)
                     try (have c15b3 := c15b2; simp only [ByteArray.size_append, show (⟨#[32, 9]⟩ : ByteArray).size = 2 from rfl, show (⟨#[13, 32]⟩ : ByteArray).size = 2 from rfl, show (⟨#[32, 35, 32, 34, 110, 111, 32, 112, 105, 101, 99, 101]⟩ : ByteArray).size = 12 from rfl] at c15b3)
                     by_cases c16 : (x6_1 ++ (⟨#[32, 35, 32, 34, 110, 111, 32, 112, 105, 101, 99, 101]⟩ : ByteArray)).size + 2 ≤ 9223372036854775807
                     · rw [if_pos c16] at H
                       have c16b0 := eq_true c16
                       have c16b1 : decide ((x6_1 ++ (⟨#[32, 35, 32, 34, 110, 111, 32, 112, 105, 101, 99, 101]⟩ : ByteArray)).size + 2 ≤ 9223372036854775807) = true := decide_eq_true c16
                       try have c16b2 : (9223372036854775807 < (x6_1 ++ (⟨#[32, 35, 32, 34, 110, 111, 32, 112, 105, 101, 99, 101]⟩ : ByteArray)).size + 2) = False := eq_false (Nat.not_lt.2 c16)
                       try (have c16b3 := c16b2; simp only [ByteArray.size_append, show (⟨#[32, 9]⟩ : ByteArray).size = 2 from rfl, show (⟨#[13, 32]⟩ : ByteArray).size = 2 from rfl, show (⟨#[32, 35, 32, 34, 110, 111, 32, 112, 105, 101, 99, 101]⟩ : ByteArray).size = 12 from rfl] at c16b3)
                       by_cases c17 : ((x6_1 ++ (⟨#[32, 35, 32, 34, 110, 111, 32, 112, 105, 101, 99, 101]⟩ : ByteArray)) ++ (⟨#[32, 9]⟩ : ByteArray)).size + t326.size ≤ 9223372036854775807
                       · rw [if_pos c17] at H
                         have c17b0 := eq_true c17
                         have c17b1 : decide (((x6_1 ++ (⟨#[32, 35, 32, 34, 110, 111, 32, 112, 105, 101, 99, 101]⟩ : ByteArray)) ++ (⟨#[32, 9]⟩ : ByteArray)).size + t326.size ≤ 9223372036854775807) = true := decide_eq_true c17
                         try have c17b2 : (9223372036854775807 < ((x6_1 ++ (⟨#[32, 35, 32, 34, 110, 111, 32, 112, 105, 101, 99, 101]⟩ : ByteArray)) ++ (⟨#[32, 9]⟩ : ByteArray)).size + t326.size) = False := eq_false (Nat.not_lt.2 c17)
                         try (have c17b3 := c17b2; simp only [ByteArray.size_append, show (⟨#[32, 9]⟩ : ByteArray).size = 2 from rfl, show (⟨#[13, 32]⟩ : ByteArray).size = 2 from rfl, show (⟨#[32, 35, 32, 34, 110, 111, 32, 112, 105, 101, 99, 101]⟩ : ByteArray).size = 12 from rfl] at c17b3)
                         by_cases c18 : (((x6_1 ++ (⟨#[32, 35, 32, 34, 110, 111, 32, 112, 105, 101, 99, 101]⟩ : ByteArray)) ++ (⟨#[32, 9]⟩ : ByteArray)) ++ t326).size + 2 ≤ 9223372036854775807
                         · rw [if_pos c18] at H
                           have c18b0 := eq_true c18
                           have c18b1 : decide ((((x6_1 ++ (⟨#[32, 35, 32, 34, 110, 111, 32, 112, 105, 101, 99, 101]⟩ : ByteArray)) ++ (⟨#[32, 9]⟩ : ByteArray)) ++ t326).size + 2 ≤ 9223372036854775807) = true := decide_eq_true c18
                           try have c18b2 : (9223372036854775807 < (((x6_1 ++ (⟨#[32, 35, 32, 34, 110, 111, 32, 112, 105, 101, 99, 101]⟩ : ByteArray)) ++ (⟨#[32, 9]⟩ : ByteArray)) ++ t326).size + 2) = False := eq_false (Nat.not_lt.2 c18)
                           try (have c18b3 := c18b2; simp only [ByteArray.size_append, show (⟨#[32, 9]⟩ : ByteArray).size = 2 from rfl, show (⟨#[13, 32]⟩ : ByteArray).size = 2 from rfl, show (⟨#[32, 35, 32, 34, 110, 111, 32, 112, 105, 101, 99, 101]⟩ : ByteArray).size = 12 from rfl] at c18b3)
                           have H' := Aside0.mk H
                           clear H
                           have q19 : ((wrap64 (x7_1 + 1)) : Int) ≤ ((l0.length : Int) : Int) := of_decide_eq_true (by first | (with_reducible assumption) | assumption)
                           obtain ⟨i019, hi019, _, hsz19, _⟩ := info_parts info35
                           have hroom19 : l0.length ≤ c0 := HC0.out
                           have hC19 : Kd.C k35 _ A0 l0.length l0 := HR0.out
                           have ql19 : (x7_1 : Int) ≤ ((wrap64 (x7_1 + 1)) : Int) := of_decide_eq_true (by first | (with_reducible assumption) | assumption)
                           have q019 : (0 : Int) ≤ (x7_1 : Int) := of_decide_eq_true (by first | (with_reducible assumption) | assumption)
                           have hcut19 := cut_mid (P := Tryd.prog) 23 35 .i64 .i64 Tryd.underlying23 hi019 3 hsz19 A0 l0.length c0 x7_1 (wrap64 (x7_1 + 1)) q019 ql19 q19 hroom19
                           have hr19 := Kd.C_mid (lo := (x7_1 : Int).toNat) (hi := ((wrap64 (x7_1 + 1)) : Int).toNat) (c := c0) hC19 (by omega) (by omega) hroom19
                           obtain ⟨A19, hA19⟩ : ∃ A1, A1 = (if c0 = (x7_1 : Int).toNat then A0 else (A0 : Option Addr).map (·.add ((x7_1 : Int).toNat * 3))) := ⟨_, rfl⟩
                           obtain ⟨c19, hc19⟩ : ∃ c1, c1 = c0 - (x7_1 : Int).toNat := ⟨_, rfl⟩
                           have hy19 : y322.length = ((wrap64 (x7_1 + 1)) : Int).toNat - (x7_1 : Int).toNat := (by rw [Ny322.out, List.length_drop, List.length_take] <;> omega)
                           rw [show ((l0).take ((wrap64 (x7_1 + 1)) : Int).toNat).drop (x7_1 : Int).toNat = y322 from Ny322.out.symm] at hr19
                           replace hr19 : Kd.C k35 _ A19 y322.length y322 := (by rw [hA19]; exact hr19)
                           rw [← hy19, ← hA19, ← hc19] at hcut19
                           have HR325 := Aside0.mk hr19
                           have HC325 := Aside0.mk (show y322.length ≤ c19 from by rw [hy19, hc19]; exact Nat.sub_le_sub_right (Nat.le_trans (by omega) hroom19) _)
                           clear hr19 hC19 hroom19 hi019 hsz19 hc19
                           have KY19 := Aside0.mk hy19
                           have KA19 := Aside0.mk hA19
                           clear hy19 hA19
                           replace q19 := eq_true q19
                           go_wp2_with (first | ((with_reducible refine gate_callee (f := 17) rfl ?_); refine goesL_ (some 30) rfl rfl Tryd.func17 (by kernel_rfl) rfl #[.slice A19 y322.length c19] rfl (by (try simp only [List.map_toArray, List.map_cons, List.map_nil]); first | done | rfl | (simp only [List.length_drop, List.length_take]; rfl)) ?_; (with_reducible refine (lex_Print.calls _ _ y322 t326 t327 _ ?side1 ?side2 A11.out).mono ?_); (case side1 => repeat (first | exact (Kd.C_below HR325.out HB.out) | (with_reducible refine Kd.C_alloc ?_ _) | (with_reducible refine Kd.C_drewN ?_ _) | (with_reducible refine Kd.C_drew ?_))); (case side2 => exact HC325.out); rintro e w20 ⟨rfl, hb⟩; refine ⟨_, rfl, ?_⟩; have n0_ := Aside0.mk (below_step (by repeat (first | (with_reducible first | exact HB.out | apply below_alloc | apply pw_below_drewN | apply below_drew1) | exact HB.out)) hb); clear HB; have HB := n0_; clear n0_; (try clear hb); (try clear hb2); (try clear hk); (try clear hi); have p328 : 0 ≤ (x7_1 : Int) := of_decide_eq_true (by first | (with_reducible assumption) | assumption); have q328 : x7_1 < (l0.length : Int) := of_decide_eq_true (by first | (with_reducible assumption) | assumption); obtain ⟨ad328, e328, hx328_0, hx328_1, hx328_2⟩ := at_T35 HR0.out x7_1 p328 q328; cases e328; replace hx328_0 := (HB.out.cell (World.block_lt_of_cell? w _ hx328_0)).trans hx328_0; replace hx328_1 := (HB.out.cell (World.block_lt_of_cell? w _ hx328_1)).trans hx328_1; replace hx328_2 := (HB.out.cell (World.block_lt_of_cell? w _ hx328_2)).trans hx328_2; replace p328 := eq_true p328; replace q328 := eq_true q328))
                           go_roundg k1
                           case measure => have := HK1.out; omega
                           case rel => exact ⟨((((x6_1 ++ (⟨#[32, 35, 32, 34, 110, 111, 32, 112, 105, 101, 99, 101]⟩ : ByteArray)) ++ (⟨#[32, 9]⟩ : ByteArray)) ++ t326) ++ (⟨#[13, 32]⟩ : ByteArray)), (wrap64 (x7_1 + 1)), (by first | rfl | (simp; done) | (simp [*]; done) | (simp [wrap64]; done)), (by first | rfl | (simp; done) | (simp [*]; done) | (simp [wrap64]; done)), H', ⟨by have := HK1.out; omega⟩, ⟨by repeat (first | (with_reducible first | exact HB.out | apply below_alloc | apply pw_below_drewN | apply below_drew1) | exact HB.out)⟩⟩
                         · rw [if_neg c18] at H
                           exact absurd H (by simp)
                       · rw [if_neg c17] at H
                         exact absurd H (by simp)
                     · rw [if_neg c16] at H
                       exact absurd H (by simp)
                   · rw [if_neg c15] at H
                     exact absurd H (by simp)
                 · rw [if_neg c14] at H
                   have c14b0 : ((Int.tmod a1 2) == 1) = false := beq_eq_false_iff_ne.mpr c14
                   have c14b1 : ((Int.tmod a1 2) != 1) = true := bne_iff_ne.mpr c14
                   by_cases c21 : x6_1.size + 2 ≤ 9223372036854775807
                   · rw [if_pos c21] at H
                     have c21b0 := eq_true c21
                     have c21b1 : decide (x6_1.size + 2 ≤ 9223372036854775807) = true := decide_eq_true c21
                     try have c21b2 : (9223372036854775807 < x6_1.size + 2) = False := eq_false (Nat.not_lt.2 c21)
                     try (have c21b3 := c21b2; simp only [ByteArray.size_append, show (⟨#[32, 9]⟩ : ByteArray).size = 2 from rfl, show (⟨#[13, 32]⟩ : ByteArray).size = 2 from rfl, show (⟨#[32, 35, 32, 34, 110, 111, 32, 112, 105, 101, 99, 101]⟩ : ByteArray).size = 12 from rfl] at c21b3)
                     by_cases c22 : (x6_1 ++ (⟨#[32, 9]⟩ : ByteArray)).size + t326.size ≤ 9223372036854775807
                     · rw [if_pos c22] at H
                       have c22b0 := eq_true c22
                       have c22b1 : decide ((x6_1 ++ (⟨#[32, 9]⟩ : ByteArray)).size + t326.size ≤ 9223372036854775807) = true := decide_eq_true c22
                       try have c22b2 : (9223372036854775807 < (x6_1 ++ (⟨#[32, 9]⟩ : ByteArray)).size + t326.size) = False := eq_false (Nat.not_lt.2 c22)
                       try (have c22b3 := c22b2; simp only [ByteArray.size_append, show (⟨#[32, 9]⟩ : ByteArray).size = 2 from rfl, show (⟨#[13, 32]⟩ : ByteArray).size = 2 from rfl, show (⟨#[32, 35, 32, 34, 110, 111, 32, 112, 105, 101, 99, 101]⟩ : ByteArray).size = 12 from rfl] at c22b3)
                       by_cases c23 : ((x6_1 ++ (⟨#[32, 9]⟩ : ByteArray)) ++ t326).size + 2 ≤ 9223372036854775807
                       · rw [if_pos c23] at H
                         have c23b0 := eq_true c23
                         have c23b1 : decide (((x6_1 ++ (⟨#[32, 9]⟩ : ByteArray)) ++ t326).size + 2 ≤ 9223372036854775807) = true := decide_eq_true c23
                         try have c23b2 : (9223372036854775807 < ((x6_1 ++ (⟨#[32, 9]⟩ : ByteArray)) ++ t326).size + 2) = False := eq_false (Nat.not_lt.2 c23)
                         try (have c23b3 := c23b2; simp only [ByteArray.size_append, show (⟨#[32, 9]⟩ : ByteArray).size = 2 from rfl, show (⟨#[13, 32]⟩ : ByteArray).size = 2 from rfl, show (⟨#[32, 35, 32, 34, 110, 111, 32, 112, 105, 101, 99, 101]⟩ : ByteArray).size = 12 from rfl] at c23b3)
                         have H' := Aside0.mk H
                         clear H
                         have q24 : ((wrap64 (x7_1 + 1)) : Int) ≤ ((l0.length : Int) : Int) := of_decide_eq_true (by first | (with_reducible assumption) | assumption)
                         obtain ⟨i024, hi024, _, hsz24, _⟩ := info_parts info35
                         have hroom24 : l0.length ≤ c0 := HC0.out
                         have hC24 : Kd.C k35 _ A0 l0.length l0 := HR0.out
                         have ql24 : (x7_1 : Int) ≤ ((wrap64 (x7_1 + 1)) : Int) := of_decide_eq_true (by first | (with_reducible assumption) | assumption)
                         have q024 : (0 : Int) ≤ (x7_1 : Int) := of_decide_eq_true (by first | (with_reducible assumption) | assumption)
                         have hcut24 := cut_mid (P := Tryd.prog) 23 35 .i64 .i64 Tryd.underlying23 hi024 3 hsz24 A0 l0.length c0 x7_1 (wrap64 (x7_1 + 1)) q024 ql24 q24 hroom24
                         have hr24 := Kd.C_mid (lo := (x7_1 : Int).toNat) (hi := ((wrap64 (x7_1 + 1)) : Int).toNat) (c := c0) hC24 (by omega) (by omega) hroom24
                         obtain ⟨A24, hA24⟩ : ∃ A1, A1 = (if c0 = (x7_1 : Int).toNat then A0 else (A0 : Option Addr).map (·.add ((x7_1 : Int).toNat * 3))) := ⟨_, rfl⟩
                         obtain ⟨c24, hc24⟩ : ∃ c1, c1 = c0 - (x7_1 : Int).toNat := ⟨_, rfl⟩
                         have hy24 : y322.length = ((wrap64 (x7_1 + 1)) : Int).toNat - (x7_1 : Int).toNat := (by rw [Ny322.out, List.length_drop, List.length_take] <;> omega)
                         rw [show ((l0).take ((wrap64 (x7_1 + 1)) : Int).toNat).drop (x7_1 : Int).toNat = y322 from Ny322.out.symm] at hr24
                         replace hr24 : Kd.C k35 _ A24 y322.length y322 := (by rw [hA24]; exact hr24)
                         rw [← hy24, ← hA24, ← hc24] at hcut24
                         have HR325 := Aside0.mk hr24
                         have HC325 := Aside0.mk (show y322.length ≤ c24 from by rw [hy24, hc24]; exact Nat.sub_le_sub_right (Nat.le_trans (by omega) hroom24) _)
                         clear hr24 hC24 hroom24 hi024 hsz24 hc24
                         have KY24 := Aside0.mk hy24
                         have KA24 := Aside0.mk hA24
                         clear hy24 hA24
                         replace q24 := eq_true q24
                         go_wp2_with (first | ((with_reducible refine gate_callee (f := 17) rfl ?_); refine goesL_ (some 30) rfl rfl Tryd.func17 (by kernel_rfl) rfl #[.slice A24 y322.length c24] rfl (by (try simp only [List.map_toArray, List.map_cons, List.map_nil]); first | done | rfl | (simp only [List.length_drop, List.length_take]; rfl)) ?_; (with_reducible refine (lex_Print.calls _ _ y322 t326 t327 _ ?side1 ?side2 A11.out).mono ?_); (case side1 => repeat (first | exact (Kd.C_below HR325.out HB.out) | (with_reducible refine Kd.C_alloc ?_ _) | (with_reducible refine Kd.C_drewN ?_ _) | (with_reducible refine Kd.C_drew ?_))); (case side2 => exact HC325.out); rintro e w25 ⟨rfl, hb⟩; refine ⟨_, rfl, ?_⟩; have n0_ := Aside0.mk (below_step (by repeat (first | (with_reducible first | exact HB.out | apply below_alloc | apply pw_below_drewN | apply below_drew1) | exact HB.out)) hb); clear HB; have HB := n0_; clear n0_; (try clear hb); (try clear hb2); (try clear hk); (try clear hi); have p328 : 0 ≤ (x7_1 : Int) := of_decide_eq_true (by first | (with_reducible assumption) | assumption); have q328 : x7_1 < (l0.length : Int) := of_decide_eq_true (by first | (with_reducible assumption) | assumption); obtain ⟨ad328, e328, hx328_0, hx328_1, hx328_2⟩ := at_T35 HR0.out x7_1 p328 q328; cases e328; replace hx328_0 := (HB.out.cell (World.block_lt_of_cell? w _ hx328_0)).trans hx328_0; replace hx328_1 := (HB.out.cell (World.block_lt_of_cell? w _ hx328_1)).trans hx328_1; replace hx328_2 := (HB.out.cell (World.block_lt_of_cell? w _ hx328_2)).trans hx328_2; replace p328 := eq_true p328; replace q328 := eq_true q328))
                         go_roundg k1
                         case measure => have := HK1.out; omega
                         case rel => exact ⟨(((x6_1 ++ (⟨#[32, 9]⟩ : ByteArray)) ++ t326) ++ (⟨#[13, 32]⟩ : ByteArray)), (wrap64 (x7_1 + 1)), (by first | rfl | (simp; done) | (simp [*]; done) | (simp [wrap64]; done)), (by first | rfl | (simp; done) | (simp [*]; done) | (simp [wrap64]; done)), H', ⟨by have := HK1.out; omega⟩, ⟨by repeat (first | (with_reducible first | exact HB.out | apply below_alloc | apply pw_below_drewN | apply below_drew1) | exact HB.out)⟩⟩
                       · rw [if_neg c23] at H
                         exact absurd H (by simp)
                     · rw [if_neg c22] at H
                       exact absurd H (by simp)
                   · rw [if_neg c21] at H
                     exact absurd H (by simp)
               · rw [if_neg c13] at H
                 have c13b0 : (((rd_T35 l0 x7_1).f0) == 5) = false := beq_eq_false_iff_ne.mpr c13
                 have c13b1 : (((rd_T35 l0 x7_1).f0) != 5) = true := bne_iff_ne.mpr c13
                 by_cases c26 : x6_1.size + 2 ≤ 9223372036854775807
                 · rw [if_pos c26] at H
                   have c26b0 := eq_true c26
                   have c26b1 : decide (x6_1.size + 2 ≤ 9223372036854775807) = true := decide_eq_true c26
                   try have c26b2 : (9223372036854775807 < x6_1.size + 2) = False := eq_false (Nat.not_lt.2 c26)
                   try (have c26b3 := c26b2; simp only [ByteArray.size_append, show (⟨#[32, 9]⟩ : ByteArray).size = 2 from rfl, show (⟨#[13, 32]⟩ : ByteArray).size = 2 from rfl, show (⟨#[32, 35, 32, 34, 110, 111, 32, 112, 105, 101, 99, 101]⟩ : ByteArray).size = 12 from rfl] at c26b3)
                   by_cases c27 : (x6_1 ++ (⟨#[32, 9]⟩ : ByteArray)).size + t326.size ≤ 9223372036854775807
                   · rw [if_pos c27] at H
                     have c27b0 := eq_true c27
                     have c27b1 : decide ((x6_1 ++ (⟨#[32, 9]⟩ : ByteArray)).size + t326.size ≤ 9223372036854775807) = true := decide_eq_true c27
                     try have c27b2 : (9223372036854775807 < (x6_1 ++ (⟨#[32, 9]⟩ : ByteArray)).size + t326.size) = False := eq_false (Nat.not_lt.2 c27)
                     try (have c27b3 := c27b2; simp only [ByteArray.size_append, show (⟨#[32, 9]⟩ : ByteArray).size = 2 from rfl, show (⟨#[13, 32]⟩ : ByteArray).size = 2 from rfl, show (⟨#[32, 35, 32, 34, 110, 111, 32, 112, 105, 101, 99, 101]⟩ : ByteArray).size = 12 from rfl] at c27b3)
                     by_cases c28 : ((x6_1 ++ (⟨#[32, 9]⟩ : ByteArray)) ++ t326).size + 2 ≤ 9223372036854775807
                     · rw [if_pos c28] at H
                       have c28b0 := eq_true c28
                       have c28b1 : decide (((x6_1 ++ (⟨#[32, 9]⟩ : ByteArray)) ++ t326).size + 2 ≤ 9223372036854775807) = true := decide_eq_true c28
                       try have c28b2 : (9223372036854775807 < ((x6_1 ++ (⟨#[32, 9]⟩ : ByteArray)) ++ t326).size + 2) = False := eq_false (Nat.not_lt.2 c28)
                       try (have c28b3 := c28b2; simp only [ByteArray.size_append, show (⟨#[32, 9]⟩ : ByteArray).size = 2 from rfl, show (⟨#[13, 32]⟩ : ByteArray).size = 2 from rfl, show (⟨#[32, 35, 32, 34, 110, 111, 32, 112, 105, 101, 99, 101]⟩ : ByteArray).size = 12 from rfl] at c28b3)
                       have H' := Aside0.mk H
                       clear H
                       have q29 : ((wrap64 (x7_1 + 1)) : Int) ≤ ((l0.length : Int) : Int) := of_decide_eq_true (by first | (with_reducible assumption) | assumption)
                       obtain ⟨i029, hi029, _, hsz29, _⟩ := info_parts info35
                       have hroom29 : l0.length ≤ c0 := HC0.out
                       have hC29 : Kd.C k35 _ A0 l0.length l0 := HR0.out
                       have ql29 : (x7_1 : Int) ≤ ((wrap64 (x7_1 + 1)) : Int) := of_decide_eq_true (by first | (with_reducible assumption) | assumption)
                       have q029 : (0 : Int) ≤ (x7_1 : Int) := of_decide_eq_true (by first | (with_reducible assumption) | assumption)
                       have hcut29 := cut_mid (P := Tryd.prog) 23 35 .i64 .i64 Tryd.underlying23 hi029 3 hsz29 A0 l0.length c0 x7_1 (wrap64 (x7_1 + 1)) q029 ql29 q29 hroom29
                       have hr29 := Kd.C_mid (lo := (x7_1 : Int).toNat) (hi := ((wrap64 (x7_1 + 1)) : Int).toNat) (c := c0) hC29 (by omega) (by omega) hroom29
                       obtain ⟨A29, hA29⟩ : ∃ A1, A1 = (if c0 = (x7_1 : Int).toNat then A0 else (A0 : Option Addr).map (·.add ((x7_1 : Int).toNat * 3))) := ⟨_, rfl⟩
                       obtain ⟨c29, hc29⟩ : ∃ c1, c1 = c0 - (x7_1 : Int).toNat := ⟨_, rfl⟩
                       have hy29 : y322.length = ((wrap64 (x7_1 + 1)) : Int).toNat - (x7_1 : Int).toNat := (by rw [Ny322.out, List.length_drop, List.length_take] <;> omega)
                       rw [show ((l0).take ((wrap64 (x7_1 + 1)) : Int).toNat).drop (x7_1 : Int).toNat = y322 from Ny322.out.symm] at hr29
                       replace hr29 : Kd.C k35 _ A29 y322.length y322 := (by rw [hA29]; exact hr29)
                       rw [← hy29, ← hA29, ← hc29] at hcut29
                       have HR325 := Aside0.mk hr29
                       have HC325 := Aside0.mk (show y322.length ≤ c29 from by rw [hy29, hc29]; exact Nat.sub_le_sub_right (Nat.le_trans (by omega) hroom29) _)
                       clear hr29 hC29 hroom29 hi029 hsz29 hc29
                       have KY29 := Aside0.mk hy29
                       have KA29 := Aside0.mk hA29
                       clear hy29 hA29
                       replace q29 := eq_true q29
                       go_wp2_with (first | ((with_reducible refine gate_callee (f := 17) rfl ?_); refine goesL_ (some 30) rfl rfl Tryd.func17 (by kernel_rfl) rfl #[.slice A29 y322.length c29] rfl (by (try simp only [List.map_toArray, List.map_cons, List.map_nil]); first | done | rfl | (simp only [List.length_drop, List.length_take]; rfl)) ?_; (with_reducible refine (lex_Print.calls _ _ y322 t326 t327 _ ?side1 ?side2 A11.out).mono ?_); (case side1 => repeat (first | exact (Kd.C_below HR325.out HB.out) | (with_reducible refine Kd.C_alloc ?_ _) | (with_reducible refine Kd.C_drewN ?_ _) | (with_reducible refine Kd.C_drew ?_))); (case side2 => exact HC325.out); rintro e w30 ⟨rfl, hb⟩; refine ⟨_, rfl, ?_⟩; have n0_ := Aside0.mk (below_step (by repeat (first | (with_reducible first | exact HB.out | apply below_alloc | apply pw_below_drewN | apply below_drew1) | exact HB.out)) hb); clear HB; have HB := n0_; clear n0_; (try clear hb); (try clear hb2); (try clear hk); (try clear hi); have p328 : 0 ≤ (x7_1 : Int) := of_decide_eq_true (by first | (with_reducible assumption) | assumption); have q328 : x7_1 < (l0.length : Int) := of_decide_eq_true (by first | (with_reducible assumption) | assumption); obtain ⟨ad328, e328, hx328_0, hx328_1, hx328_2⟩ := at_T35 HR0.out x7_1 p328 q328; cases e328; replace hx328_0 := (HB.out.cell (World.block_lt_of_cell? w _ hx328_0)).trans hx328_0; replace hx328_1 := (HB.out.cell (World.block_lt_of_cell? w _ hx328_1)).trans hx328_1; replace hx328_2 := (HB.out.cell (World.block_lt_of_cell? w _ hx328_2)).trans hx328_2; replace p328 := eq_true p328; replace q328 := eq_true q328))
                       go_roundg k1
                       case measure => have := HK1.out; omega
                       case rel => exact ⟨(((x6_1 ++ (⟨#[32, 9]⟩ : ByteArray)) ++ t326) ++ (⟨#[13, 32]⟩ : ByteArray)), (wrap64 (x7_1 + 1)), (by first | rfl | (simp; done) | (simp [*]; done) | (simp [wrap64]; done)), (by first | rfl | (simp; done) | (simp [*]; done) | (simp [wrap64]; done)), H', ⟨by have := HK1.out; omega⟩, ⟨by repeat (first | (with_reducible first | exact HB.out | apply below_alloc | apply pw_below_drewN | apply below_drew1) | exact HB.out)⟩⟩
                     · rw [if_neg c28] at H
                       exact absurd H (by simp)
                   · rw [if_neg c27] at H
                     exact absurd H (by simp)
                 · rw [if_neg c26] at H
                   exact absurd H (by simp)
             · rw [if_neg c12] at H
               have c12b0 : (t327 == 0) = false := beq_eq_false_iff_ne.mpr c12
               have c12b1 : (t327 != 0) = true := bne_iff_ne.mpr c12
               obtain rfl := Option.some.inj H
               have q31 : ((wrap64 (x7_1 + 1)) : Int) ≤ ((l0.length : Int) : Int) := of_decide_eq_true (by first | (with_reducible assumption) | assumption)
               obtain ⟨i031, hi031, _, hsz31, _⟩ := info_parts info35
               have hroom31 : l0.length ≤ c0 := HC0.out
               have hC31 : Kd.C k35 _ A0 l0.length l0 := HR0.out
               have ql31 : (x7_1 : Int) ≤ ((wrap64 (x7_1 + 1)) : Int) := of_decide_eq_true (by first | (with_reducible assumption) | assumption)
               have q031 : (0 : Int) ≤ (x7_1 : Int) := of_decide_eq_true (by first | (with_reducible assumption) | assumption)
               have hcut31 := cut_mid (P := Tryd.prog) 23 35 .i64 .i64 Tryd.underlying23 hi031 3 hsz31 A0 l0.length c0 x7_1 (wrap64 (x7_1 + 1)) q031 ql31 q31 hroom31
               have hr31 := Kd.C_mid (lo := (x7_1 : Int).toNat) (hi := ((wrap64 (x7_1 + 1)) : Int).toNat) (c := c0) hC31 (by omega) (by omega) hroom31
               obtain ⟨A31, hA31⟩ : ∃ A1, A1 = (if c0 = (x7_1 : Int).toNat then A0 else (A0 : Option Addr).map (·.add ((x7_1 : Int).toNat * 3))) := ⟨_, rfl⟩
               obtain ⟨c31, hc31⟩ : ∃ c1, c1 = c0 - (x7_1 : Int).toNat := ⟨_, rfl⟩
               have hy31 : y322.length = ((wrap64 (x7_1 + 1)) : Int).toNat - (x7_1 : Int).toNat := (by rw [Ny322.out, List.length_drop, List.length_take] <;> omega)
               rw [show ((l0).take ((wrap64 (x7_1 + 1)) : Int).toNat).drop (x7_1 : Int).toNat = y322 from Ny322.out.symm] at hr31
               replace hr31 : Kd.C k35 _ A31 y322.length y322 := (by rw [hA31]; exact hr31)
               rw [← hy31, ← hA31, ← hc31] at hcut31
               have HR325 := Aside0.mk hr31
               have HC325 := Aside0.mk (show y322.length ≤ c31 from by rw [hy31, hc31]; exact Nat.sub_le_sub_right (Nat.le_trans (by omega) hroom31) _)
               clear hr31 hC31 hroom31 hi031 hsz31 hc31
               have KY31 := Aside0.mk hy31
               have KA31 := Aside0.mk hA31
               clear hy31 hA31
               replace q31 := eq_true q31
               go_wp2_with (first | ((with_reducible refine gate_callee (f := 17) rfl ?_); refine goesL_ (some 30) rfl rfl Tryd.func17 (by kernel_rfl) rfl #[.slice A31 y322.length c31] rfl (by (try simp only [List.map_toArray, List.map_cons, List.map_nil]); first | done | rfl | (simp only [List.length_drop, List.length_take]; rfl)) ?_; (with_reducible refine (lex_Print.calls _ _ y322 t326 t327 _ ?side1 ?side2 A11.out).mono ?_); (case side1 => repeat (first | exact (Kd.C_below HR325.out HB.out) | (with_reducible refine Kd.C_alloc ?_ _) | (with_reducible refine Kd.C_drewN ?_ _) | (with_reducible refine Kd.C_drew ?_))); (case side2 => exact HC325.out); rintro e w32 ⟨rfl, hb⟩; refine ⟨_, rfl, ?_⟩; have n0_ := Aside0.mk (below_step (by repeat (first | (with_reducible first | exact HB.out | apply below_alloc | apply pw_below_drewN | apply below_drew1) | exact HB.out)) hb); clear HB; have HB := n0_; clear n0_; (try clear hb); (try clear hb2); (try clear hk); (try clear hi)))
               go_ret
               exact ⟨by first | rfl | (simp [errW_none, errW_some] <;> rfl) | (simp [*, errW_none, errW_some] <;> rfl), by repeat (first | (with_reducible first | exact HB.out | apply below_alloc | apply pw_below_drewN | apply below_drew1) | exact HB.out)⟩
           · rw [if_neg c10] at H
             exact absurd H (by simp)
         · rw [if_neg c9] at H
           exact absurd H (by simp)
       · rw [if_neg c8] at H
         exact absurd H (by simp)
     · rw [if_neg c7] at H
       have c7b0 : decide (x7_1 < (l0.length : Int)) = false := decide_eq_false c7
       clear c7
       replace H := Option.bind_eq_some_iff.mp H
       obtain ⟨⟨t329, t330, t331⟩, A330, H⟩ := H
       replace H : (if t320 = true then (if t331 = 0 then ((partitaref18_Bare.f k1 t329).bind fun t334 => ((partitaref18_Bare.f k1 l0).bind fun t337 => ((partitaref18_Same.f k1 t334 t337).bind fun t340 => (some t340)))) else none) else none) = some r := H
       have A33 := Aside0.mk A330
       clear A330
       by_cases c34 : t320 = true
       · subst c34
         have H1 : (if t331 = 0 then ((partitaref18_Bare.f k1 t329).bind fun t334 => ((partitaref18_Bare.f k1 l0).bind fun t337 => ((partitaref18_Same.f k1 t334 t337).bind fun t340 => (some t340)))) else none) = some r := by rw [if_pos rfl] at H; exact H
         clear H
         have H := H1
         clear H1
         by_cases c35 : t331 = 0
         · rw [if_pos c35] at H
           have c35b0 : (t331 == 0) = true := beq_iff_eq.mpr c35
           have c35b1 : (t331 != 0) = false := bne_eq_false_iff_eq.mpr c35
           clear c35
           replace H := Option.bind_eq_some_iff.mp H
           obtain ⟨t334, A360, H⟩ := H
           replace H : ((partitaref18_Bare.f k1 l0).bind fun t337 => ((partitaref18_Same.f k1 t334 t337).bind fun t340 => (some t340))) = some r := H
           have A36 := Aside0.mk A360
           clear A360
           replace H := Option.bind_eq_some_iff.mp H
           obtain ⟨t337, A370, H⟩ := H
           replace H : ((partitaref18_Same.f k1 t334 t337).bind fun t340 => (some t340)) = some r := H
           have A37 := Aside0.mk A370
           clear A370
           replace H := Option.bind_eq_some_iff.mp H
           obtain ⟨t340, A380, H⟩ := H
           replace H : (some t340) = some r := H
           have A38 := Aside0.mk A380
           clear A380
           obtain rfl := Option.some.inj H
           go_wp2_with (first | ((with_reducible refine gate_callee (f := 13) rfl ?_); refine goesL_ (some 56) rfl rfl Tryd.func13 (by kernel_rfl) rfl #[.string x6_1] rfl (by (try simp only [List.map_toArray, List.map_cons, List.map_nil]); first | done | rfl | (simp only [List.length_drop, List.length_take]; rfl)) ?_; (with_reducible refine (lex_Tokens.calls k1 x6_1 t329 t330 t331 _ A33.out).mono ?_); rintro e w39 ⟨v332, rfl, ho0, hb⟩; refine ⟨_, rfl, ?_⟩; have n0_ := Aside0.mk (Kd.R_lower ho0 (below_size (by repeat (first | (with_reducible first | exact HB.out | apply below_alloc | apply pw_below_drewN | apply below_drew1) | exact HB.out)))); have n1_ := Aside0.mk (below_step (by repeat (first | (with_reducible first | exact HB.out | apply below_alloc | apply pw_below_drewN | apply below_drew1) | exact HB.out)) hb); clear HB; have HO333 := n0_; have HB := n1_; clear n0_ n1_; (try clear hb); (try clear hb2); (try clear hk); (try clear hi); (try clear ho0); obtain ⟨Ao40, co40, eo40⟩ := Kd.R_slice HO333.out; subst eo40) | (go_at_call 21; (with_reducible refine (partitaref18_Bare.calls k1 _ _ t329 t334 _ ?side1 ?side2 A36.out).mono ?_); (case side1 => repeat (first | exact (Kd.R_reads' HO333.out).2.2 | (with_reducible refine Kd.C_alloc ?_ _) | (with_reducible refine Kd.C_drewN ?_ _) | (with_reducible refine Kd.C_drew ?_))); (case side2 => exact (Kd.R_reads' HO333.out).2.1); rintro e w41 ⟨v335, rfl, ho0, hb⟩; have n0_ := Aside0.mk (Kd.R_elder' (qR HO333.out) (Kd.R_base ho0) hb); have n1_ := Aside0.mk (Kd.R_lower (Kd.R_new' ho0 (Kd.R_lt (qR HO333.out))) (below_size (by repeat (first | (with_reducible first | exact HB.out | apply below_alloc | apply pw_below_drewN | apply below_drew1) | exact HB.out)))); have n2_ := Aside0.mk (below_step (by repeat (first | (with_reducible first | exact HB.out | apply below_alloc | apply pw_below_drewN | apply below_drew1) | exact HB.out)) hb); clear HO333; clear HB; have HO333 := n0_; have HO336 := n1_; have HB := n2_; clear n0_ n1_ n2_; (try clear hb); (try clear hb2); (try clear hk); (try clear hi); (try clear ho0)) | (go_at_call 21; (with_reducible refine (partitaref18_Bare.calls k1 _ _ l0 t337 _ ?side1 ?side2 A37.out).mono ?_); (case side1 => repeat (first | exact (Kd.C_below HR0.out HB.out) | (with_reducible refine Kd.C_alloc ?_ _) | (with_reducible refine Kd.C_drewN ?_ _) | (with_reducible refine Kd.C_drew ?_))); (case side2 => exact HC0.out); rintro e w42 ⟨v338, rfl, ho0, hb⟩; have n0_ := Aside0.mk (Kd.R_elder' (qR HO333.out) (Kd.R_base ho0) hb); have n1_ := Aside0.mk (Kd.R_elder' (qR HO336.out) (Kd.R_base ho0) hb); have n2_ := Aside0.mk (Kd.R_lower (Kd.R_new' (Kd.R_new' ho0 (Kd.R_lt (qR HO333.out))) (Kd.R_lt (qR HO336.out))) (below_size (by repeat (first | (with_reducible first | exact HB.out | apply below_alloc | apply pw_below_drewN | apply below_drew1) | exact HB.out)))); have n3_ := Aside0.mk (below_step (by repeat (first | (with_reducible first | exact HB.out | apply below_alloc | apply pw_below_drewN | apply below_drew1) | exact HB.out)) hb); clear HO333; clear HO336; clear HB; have HO333 := n0_; have HO336 := n1_; have HO339 := n2_; have HB := n3_; clear n0_ n1_ n2_ n3_; (try clear hb); (try clear hb2); (try clear hk); (try clear hi); (try clear ho0); obtain ⟨Ao43, co43, eo43⟩ := Kd.R_slice HO336.out; subst eo43; obtain ⟨Ao44, co44, eo44⟩ := Kd.R_slice HO339.out; subst eo44) | (go_at_call 15; (with_reducible refine (partitaref18_Same.calls k1 _ _ t334 _ _ t337 t340 _ ?side1 ?side2 ?side3 ?side4 A38.out).mono ?_); (case side1 => repeat (first | exact (Kd.R_reads' HO336.out).2.2 | (with_reducible refine Kd.C_alloc ?_ _) | (with_reducible refine Kd.C_drewN ?_ _) | (with_reducible refine Kd.C_drew ?_))); (case side2 => exact (Kd.R_reads' HO336.out).2.1); (case side3 => repeat (first | exact (Kd.R_reads' HO339.out).2.2 | (with_reducible refine Kd.C_alloc ?_ _) | (with_reducible refine Kd.C_drewN ?_ _) | (with_reducible refine Kd.C_drew ?_))); (case side4 => exact (Kd.R_reads' HO339.out).2.1); rintro e w' ⟨rfl, ⟨nd, rfl⟩⟩))
           go_ret
           exact ⟨by first | rfl | (simp [errW_none, errW_some] <;> rfl) | (simp [*, errW_none, errW_some] <;> rfl), by repeat (first | (with_reducible first | exact HB.out | apply below_alloc | apply pw_below_drewN | apply below_drew1) | exact HB.out)⟩
         · rw [if_neg c35] at H
           cases H
       · replace c34 := Bool.eq_false_iff.mpr c34
         subst c34
         have H1 : none = some r := by rw [if_neg (show ¬ (false = true) by decide)] at H; exact H
         cases H1
 · replace c5 := Bool.eq_false_iff.mpr c5
   subst c5
   have H1 : (some t320) = some r := by rw [if_neg (show ¬ (false = true) by decide)] at H; exact H
   clear H
   have H := H1
   clear H1
   obtain rfl := Option.some.inj H
   go_enter Tryd.func10, Tryd.ntmps10
   go_wp2_with (first | ((with_reducible refine gate_callee (f := 12) rfl ?_); refine goesL_ (some 13) rfl rfl Tryd.func12 (by kernel_rfl) rfl #[] rfl (by (try simp only [List.map_toArray, List.map_cons, List.map_nil]); first | done | rfl | (simp only [List.length_drop, List.length_take]; rfl)) ?_; (with_reducible refine (partitalaw18_awake.calls k  t320 _ A3.out).mono ?_); rintro e w47 ⟨rfl, hb⟩; refine ⟨_, rfl, ?_⟩; have n0_ := Aside0.mk (below_step (by repeat (first | (with_reducible first | exact HB.out | apply below_alloc | apply pw_below_drewN | apply below_drew1) | exact HB.out)) hb); clear HB; have HB := n0_; clear n0_; (try clear hb); (try clear hb2); (try clear hk); (try clear hi)) | ((with_reducible refine gate_callee (f := 16) rfl ?_); refine goesL_ (some 15) rfl rfl Tryd.func16 (by kernel_rfl) rfl #[.slice A0 l0.length c0] rfl (by (try simp only [List.map_toArray, List.map_cons, List.map_nil]); first | done | rfl | (simp only [List.length_drop, List.length_take]; rfl)) ?_; (with_reducible refine (partitaref18_Few.calls k _ _ l0 false _ ?side1 ?side2 A4.out).mono ?_); (case side1 => repeat (first | exact (Kd.C_below HR0.out HB.out) | (with_reducible refine Kd.C_alloc ?_ _) | (with_reducible refine Kd.C_drewN ?_ _) | (with_reducible refine Kd.C_drew ?_))); (case side2 => exact HC0.out); rintro e w' ⟨rfl, ⟨nd, rfl⟩⟩; refine ⟨_, rfl, ?_⟩))
   go_ret
   exact ⟨by first | rfl | (simp [errW_none, errW_some] <;> rfl) | (simp [*, errW_none, errW_some] <;> rfl), by repeat (first | (with_reducible first | exact HB.out | apply below_alloc | apply pw_below_drewN | apply below_drew1) | exact HB.out)⟩

end Go.Proofs.YtllccnijipgncaaDoor.Q
