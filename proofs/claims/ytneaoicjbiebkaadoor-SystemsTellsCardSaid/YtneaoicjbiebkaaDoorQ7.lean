-- Written by a program of this session (myprint.py), function by function.
import Derived.Test.YtneaoicjbiebkaaDoorQ0
import Derived.Test.YtneaoicjbiebkaaDoorQ2
import Derived.Test.YtneaoicjbiebkaaDoorQ3
import Derived.Test.YtneaoicjbiebkaaDoorQ4
import Derived.Test.YtneaoicjbiebkaaDoorQ6
import Derived.Test.YtneaoicjbiebkaaDoorFew
namespace Go.Proofs.YtneaoicjbiebkaaDoor.Q
open Go.RowKit Go.Proofs.YtneaoicjbiebkaaDoorW.PrintWords Go.Proofs.YtneaoicjbiebkaaDoorW.PrintLast Go.Proofs.YtneaoicjbiebkaaDoorW.PrintMore
attribute [local go_sem] max2_int min2_int max_two min_two max_three min_three max_four min_four   -- for this text's walks alone
set_option linter.unusedVariables false
set_option linter.unusedSimpArgs false

/-! ### partitalaw25_SystemsTells: function 3 -/
def partitalaw25_SystemsTells.f (k : Nat) (a0 : Int) (a1 : Int) (a2 : Int) (l3 : List Int) (l4 : List Int) (a5 : Int) : Option (Bool) := (partitalaw25_shown.f k).bind fun t190 => (if 0 ≤ (mn (l3.length : Int) 101) then (if (mn (l3.length : Int) 101) ≤ (l3.length : Int) then ((some (l3.take ((mn (l3.length : Int) 101) : Int).toNat : List Int)).bind fun y191 => (if 0 ≤ (mn (l4.length : Int) 101) then (if (mn (l4.length : Int) 101) ≤ (l4.length : Int) then ((some (l4.take ((mn (l4.length : Int) 101) : Int).toNat : List Int)).bind fun y195 => ((systems_Cost.f k a0 a1 a2).bind fun bt199 => ((partitaref25_Cost.f k a0 a1 a2).bind fun bt201 => ((systems_Break.f y191 y195 a5).bind fun bt203 => ((partitaref25_Break.f k y191 y195 a5).bind fun bt207 => (if t190 = true then (if bt199.1 = bt201.1 then (if (bt199.2 == bt201.2) = true then ((partitaref25_Same.f k bt203.1 bt207.1).bind fun t211 => (if t211 = true then (some (bt203.2 == bt207.2)) else none)) else none) else none) else none)))))) else (none)) else (none))) else (none)) else (none))
theorem partitalaw25_SystemsTells.mono : ∀ a0 a1 a2 a3 a4 a5 k, LeO (partitalaw25_SystemsTells.f k a0 a1 a2 a3 a4 a5) (partitalaw25_SystemsTells.f (k + 1) a0 a1 a2 a3 a4 a5) := by
 intro a0 a1 a2 a3 a4 a5 k
 unfold partitalaw25_SystemsTells.f
 repeat' first
  | (with_reducible exact partitalaw25_shown.mono _)
  | (with_reducible exact partitaref25_Break.mono _ _ _ _)
  | (with_reducible exact partitaref25_Cost.mono _ _ _ _)
  | (with_reducible exact partitaref25_Same.mono _ _ _)
  | (with_reducible exact systems_Cost.mono _ _ _ _)
  | (with_reducible exact LeO.refl _)
  | (with_reducible exact LeO.none _)
  | (with_reducible refine LeO.ite ?_ ?_)
  | (with_reducible refine LeO.bind ?_ (fun _ => ?_))
  | exact partitalaw25_shown.mono _
  | exact partitaref25_Break.mono _ _ _ _
  | exact partitaref25_Cost.mono _ _ _ _
  | exact partitaref25_Same.mono _ _ _
  | exact systems_Cost.mono _ _ _ _
  | exact LeO.none _
  | refine LeO.ite ?_ ?_
  | refine LeO.bind ?_ (fun _ => ?_)
set_option maxHeartbeats 8000000 in
set_option maxRecDepth 100000 in
theorem partitalaw25_SystemsTells.calls (k : Nat) (a0 : Int) (a1 : Int) (a2 : Int) (A3 : Option Addr) (c3 : Nat) (l3 : List Int) (A4 : Option Addr) (c4 : Nat) (l4 : List Int) (a5 : Int) (r : Bool) (w : World) (hr3 : Kd.C (Kd.int .i64) w A3 l3.length l3) (hc3 : l3.length ≤ c3) (hr4 : Kd.C (Kd.int .i64) w A4 l4.length l4) (hc4 : l4.length ≤ c4) (h : partitalaw25_SystemsTells.f k a0 a1 a2 l3 l4 a5 = some r) (SENTS : Aside0 (SentsE w) := by exact sents_step (by assumption) (by repeat (first | (with_reducible first | exact (by assumption : Aside0 (Below _ _ _)).out | apply below_alloc | apply pw_below_drewN | apply below_drew1)))) :
 Calls Tryd.prog 3 #[.int .i64 a0, .int .i64 a1, .int .i64 a2, .slice A3 l3.length c3, .slice A4 l4.length c4, .int .i64 a5] w fun e w' => e = .returned (.bool r) ∧ Below w.heap.size w w' := by
 have HR3 := Aside0.mk hr3
 have HC3 := Aside0.mk hc3
 clear hr3 hc3
 have HR4 := Aside0.mk hr4
 have HC4 := Aside0.mk hc4
 clear hr4 hc4
 have HB := Aside0.mk (Below.refl w.heap.size w)
 have H : ((partitalaw25_shown.f k).bind fun t190 => (if 0 ≤ (mn (l3.length : Int) 101) then (if (mn (l3.length : Int) 101) ≤ (l3.length : Int) then ((some (l3.take ((mn (l3.length : Int) 101) : Int).toNat : List Int)).bind fun y191 => (if 0 ≤ (mn (l4.length : Int) 101) then (if (mn (l4.length : Int) 101) ≤ (l4.length : Int) then ((some (l4.take ((mn (l4.length : Int) 101) : Int).toNat : List Int)).bind fun y195 => ((systems_Cost.f k a0 a1 a2).bind fun bt199 => ((partitaref25_Cost.f k a0 a1 a2).bind fun bt201 => ((systems_Break.f y191 y195 a5).bind fun bt203 => ((partitaref25_Break.f k y191 y195 a5).bind fun bt207 => (if t190 = true then (if bt199.1 = bt201.1 then (if (bt199.2 == bt201.2) = true then ((partitaref25_Same.f k bt203.1 bt207.1).bind fun t211 => (if t211 = true then (some (bt203.2 == bt207.2)) else none)) else none) else none) else none)))))) else (none)) else (none))) else (none)) else (none))) = some r := h
 clear h
 replace H := Option.bind_eq_some_iff.mp H
 obtain ⟨t190, A70, H⟩ := H
 replace H : (if 0 ≤ (mn (l3.length : Int) 101) then (if (mn (l3.length : Int) 101) ≤ (l3.length : Int) then ((some (l3.take ((mn (l3.length : Int) 101) : Int).toNat : List Int)).bind fun y191 => (if 0 ≤ (mn (l4.length : Int) 101) then (if (mn (l4.length : Int) 101) ≤ (l4.length : Int) then ((some (l4.take ((mn (l4.length : Int) 101) : Int).toNat : List Int)).bind fun y195 => ((systems_Cost.f k a0 a1 a2).bind fun bt199 => ((partitaref25_Cost.f k a0 a1 a2).bind fun bt201 => ((systems_Break.f y191 y195 a5).bind fun bt203 => ((partitaref25_Break.f k y191 y195 a5).bind fun bt207 => (if t190 = true then (if bt199.1 = bt201.1 then (if (bt199.2 == bt201.2) = true then ((partitaref25_Same.f k bt203.1 bt207.1).bind fun t211 => (if t211 = true then (some (bt203.2 == bt207.2)) else none)) else none) else none) else none)))))) else (none)) else (none))) else (none)) else (none)) = some r := H
 have A7 := Aside0.mk A70
 clear A70
 obtain ⟨ji8, hji8⟩ : ∃ j_ : Int, (mn (l3.length : Int) 101) = j_ := ⟨_, rfl⟩
 replace H : (if 0 ≤ (ji8) then (if (ji8) ≤ (l3.length : Int) then ((some (l3.take ((ji8) : Int).toNat : List Int)).bind fun y191 => (if 0 ≤ (mn (l4.length : Int) 101) then (if (mn (l4.length : Int) 101) ≤ (l4.length : Int) then ((some (l4.take ((mn (l4.length : Int) 101) : Int).toNat : List Int)).bind fun y195 => ((systems_Cost.f k a0 a1 a2).bind fun bt199 => ((partitaref25_Cost.f k a0 a1 a2).bind fun bt201 => ((systems_Break.f y191 y195 a5).bind fun bt203 => ((partitaref25_Break.f k y191 y195 a5).bind fun bt207 => (if t190 = true then (if bt199.1 = bt201.1 then (if (bt199.2 == bt201.2) = true then ((partitaref25_Same.f k bt203.1 bt207.1).bind fun t211 => (if t211 = true then (some (bt203.2 == bt207.2)) else none)) else none) else none) else none)))))) else (none)) else (none))) else (none)) else (none)) = some r := by first | (rw [hji8] at H; exact H) | (simp only [hji8] at H ⊢; exact H)
 (try rw [hji8] at A7)
 (try (have hji8h : ji8 ≤ 101 := by (rw [← hji8]; unfold mn; (repeat' split) <;> omega)))
 (try (have hji8g : ji8 ≤ 64 := by omega))
 (try (have hji8l : 0 ≤ ji8 := by (rw [← hji8]; unfold mn; (repeat' split) <;> omega)))
 (try (have hji8m : 0 ≤ ji8 := by omega))
 have hji8_ : (if 101 < (l3.length : Int) then 101 else (l3.length : Int)) = ji8 := hji8
 by_cases c9 : 0 ≤ (ji8)
 · rw [if_pos c9] at H
   have c9b0 := eq_true c9
   have c9b1 : decide (0 ≤ (ji8)) = true := decide_eq_true c9
   clear c9
   by_cases c10 : (ji8) ≤ (l3.length : Int)
   · rw [if_pos c10] at H
     have c10b0 := eq_true c10
     have c10b1 : decide ((ji8) ≤ (l3.length : Int)) = true := decide_eq_true c10
     clear c10
     obtain ⟨y191, hy191⟩ : ∃ y_ : List Int, y_ = (l3.take ((ji8) : Int).toNat) := ⟨_, rfl⟩
     replace H : (if 0 ≤ (mn (l4.length : Int) 101) then (if (mn (l4.length : Int) 101) ≤ (l4.length : Int) then ((some (l4.take ((mn (l4.length : Int) 101) : Int).toNat : List Int)).bind fun y195 => ((systems_Cost.f k a0 a1 a2).bind fun bt199 => ((partitaref25_Cost.f k a0 a1 a2).bind fun bt201 => ((systems_Break.f y191 y195 a5).bind fun bt203 => ((partitaref25_Break.f k y191 y195 a5).bind fun bt207 => (if t190 = true then (if bt199.1 = bt201.1 then (if (bt199.2 == bt201.2) = true then ((partitaref25_Same.f k bt203.1 bt207.1).bind fun t211 => (if t211 = true then (some (bt203.2 == bt207.2)) else none)) else none) else none) else none)))))) else (none)) else (none)) = some r := by first | (rw [hy191]; with_reducible exact H) | (have H2_ := (Option.bind_some _ _).symm.trans H; rw [hy191]; with_reducible exact H2_) | (have H2_ := (Option.bind_some _ _).symm.trans H; with_reducible exact H2_) | with_reducible exact H | (rw [hy191]; exact H) | exact H
     have Ny191 := Aside0.mk hy191
     clear hy191
     obtain ⟨ji11, hji11⟩ : ∃ j_ : Int, (mn (l4.length : Int) 101) = j_ := ⟨_, rfl⟩
     replace H : (if 0 ≤ (ji11) then (if (ji11) ≤ (l4.length : Int) then ((some (l4.take ((ji11) : Int).toNat : List Int)).bind fun y195 => ((systems_Cost.f k a0 a1 a2).bind fun bt199 => ((partitaref25_Cost.f k a0 a1 a2).bind fun bt201 => ((systems_Break.f y191 y195 a5).bind fun bt203 => ((partitaref25_Break.f k y191 y195 a5).bind fun bt207 => (if t190 = true then (if bt199.1 = bt201.1 then (if (bt199.2 == bt201.2) = true then ((partitaref25_Same.f k bt203.1 bt207.1).bind fun t211 => (if t211 = true then (some (bt203.2 == bt207.2)) else none)) else none) else none) else none)))))) else (none)) else (none)) = some r := by first | (rw [hji11] at H; exact H) | (simp only [hji11] at H ⊢; exact H)
     (try rw [hji11] at A7)
     (try (have hji11h : ji11 ≤ 101 := by (rw [← hji11]; unfold mn; (repeat' split) <;> omega)))
     (try (have hji11g : ji11 ≤ 64 := by omega))
     (try (have hji11l : 0 ≤ ji11 := by (rw [← hji11]; unfold mn; (repeat' split) <;> omega)))
     (try (have hji11m : 0 ≤ ji11 := by omega))
     have hji11_ : (if 101 < (l4.length : Int) then 101 else (l4.length : Int)) = ji11 := hji11
     by_cases c12 : 0 ≤ (ji11)
     · rw [if_pos c12] at H
       have c12b0 := eq_true c12
       have c12b1 : decide (0 ≤ (ji11)) = true := decide_eq_true c12
       clear c12
       by_cases c13 : (ji11) ≤ (l4.length : Int)
       · rw [if_pos c13] at H
         have c13b0 := eq_true c13
         have c13b1 : decide ((ji11) ≤ (l4.length : Int)) = true := decide_eq_true c13
         clear c13
         obtain ⟨y195, hy195⟩ : ∃ y_ : List Int, y_ = (l4.take ((ji11) : Int).toNat) := ⟨_, rfl⟩
         replace H : ((systems_Cost.f k a0 a1 a2).bind fun bt199 => ((partitaref25_Cost.f k a0 a1 a2).bind fun bt201 => ((systems_Break.f y191 y195 a5).bind fun bt203 => ((partitaref25_Break.f k y191 y195 a5).bind fun bt207 => (if t190 = true then (if bt199.1 = bt201.1 then (if (bt199.2 == bt201.2) = true then ((partitaref25_Same.f k bt203.1 bt207.1).bind fun t211 => (if t211 = true then (some (bt203.2 == bt207.2)) else none)) else none) else none) else none))))) = some r := by first | (rw [hy195]; with_reducible exact H) | (have H2_ := (Option.bind_some _ _).symm.trans H; rw [hy195]; with_reducible exact H2_) | (have H2_ := (Option.bind_some _ _).symm.trans H; with_reducible exact H2_) | with_reducible exact H | (rw [hy195]; exact H) | exact H
         have Ny195 := Aside0.mk hy195
         clear hy195
         replace H := Option.bind_eq_some_iff.mp H
         obtain ⟨⟨t199, t200⟩, A140, H⟩ := H
         replace H : ((partitaref25_Cost.f k a0 a1 a2).bind fun bt201 => ((systems_Break.f y191 y195 a5).bind fun bt203 => ((partitaref25_Break.f k y191 y195 a5).bind fun bt207 => (if t190 = true then (if t199 = bt201.1 then (if (t200 == bt201.2) = true then ((partitaref25_Same.f k bt203.1 bt207.1).bind fun t211 => (if t211 = true then (some (bt203.2 == bt207.2)) else none)) else none) else none) else none)))) = some r := H
         have A14 := Aside0.mk A140
         clear A140
         replace H := Option.bind_eq_some_iff.mp H
         obtain ⟨⟨t201, t202⟩, A150, H⟩ := H
         replace H : ((systems_Break.f y191 y195 a5).bind fun bt203 => ((partitaref25_Break.f k y191 y195 a5).bind fun bt207 => (if t190 = true then (if t199 = t201 then (if (t200 == t202) = true then ((partitaref25_Same.f k bt203.1 bt207.1).bind fun t211 => (if t211 = true then (some (bt203.2 == bt207.2)) else none)) else none) else none) else none))) = some r := H
         have A15 := Aside0.mk A150
         clear A150
         replace H := Option.bind_eq_some_iff.mp H
         obtain ⟨⟨t203, t204⟩, A160, H⟩ := H
         replace H : ((partitaref25_Break.f k y191 y195 a5).bind fun bt207 => (if t190 = true then (if t199 = t201 then (if (t200 == t202) = true then ((partitaref25_Same.f k t203 bt207.1).bind fun t211 => (if t211 = true then (some (t204 == bt207.2)) else none)) else none) else none) else none)) = some r := H
         have A16 := Aside0.mk A160
         clear A160
         replace H := Option.bind_eq_some_iff.mp H
         obtain ⟨⟨t207, t208⟩, A170, H⟩ := H
         replace H : (if t190 = true then (if t199 = t201 then (if (t200 == t202) = true then ((partitaref25_Same.f k t203 t207).bind fun t211 => (if t211 = true then (some (t204 == t208)) else none)) else none) else none) else none) = some r := H
         have A17 := Aside0.mk A170
         clear A170
         by_cases c18 : t190 = true
         · subst c18
           have H1 : (if t199 = t201 then (if (t200 == t202) = true then ((partitaref25_Same.f k t203 t207).bind fun t211 => (if t211 = true then (some (t204 == t208)) else none)) else none) else none) = some r := by rw [if_pos rfl] at H; exact H
           clear H
           have H := H1
           clear H1
           by_cases c19 : t199 = t201
           · rw [if_pos c19] at H
             have c19b0 : (t199 == t201) = true := beq_iff_eq.mpr c19
             have c19b1 : (t199 != t201) = false := bne_eq_false_iff_eq.mpr c19
             clear c19
             by_cases c20 : (t200 == t202) = true
             · rw [if_pos c20] at H
               have c20b0 : (t200 == t202) = true := c20
               (try (have c20b1 : decide (t200 = t202) = true := by simpa using c20))
               (try (have c20b2 : (t200 == t202) = true := by simpa using c20))
               clear c20
               replace H := Option.bind_eq_some_iff.mp H
               obtain ⟨t211, A210, H⟩ := H
               replace H : (if t211 = true then (some (t204 == t208)) else none) = some r := H
               have A21 := Aside0.mk A210
               clear A210
               by_cases c22 : t211 = true
               · subst c22
                 have H1 : (some (t204 == t208)) = some r := by rw [if_pos rfl] at H; exact H
                 clear H
                 have H := H1
                 clear H1
                 obtain rfl := Option.some.inj H
                 go_enter Tryd.func3, Tryd.ntmps3
                 go_wp2_with (first | (go_at_call 11; (with_reducible refine (Few_cut _ _ _ _ _ _ (by assumption) (by assumption) (by first | exact HC3.out | exact HC4.out)).mono ?_); rintro e w' ⟨rfl, rfl⟩) | ((with_reducible refine gate_callee (f := 10) rfl ?_); refine goesL_ (some 22) rfl rfl Tryd.func10 (by kernel_rfl) rfl #[] rfl (by (try simp only [List.map_toArray, List.map_cons, List.map_nil]); first | done | rfl | (simp only [List.length_drop, List.length_take]; rfl)) ?_; (with_reducible refine (partitalaw25_shown.calls k  true _ A7.out).mono ?_); rintro e w23 ⟨rfl, hb⟩; refine ⟨_, rfl, ?_⟩; have n0_ := Aside0.mk (below_step (by repeat (first | (with_reducible first | exact HB.out | apply below_alloc | apply pw_below_drewN | apply below_drew1) | exact HB.out)) hb); clear HB; have HB := n0_; clear n0_; (try clear hb); (try clear hb2); (try clear hk); (try clear hi); have q24 : ((ji8) : Int) ≤ ((l3.length : Int) : Int) := of_decide_eq_true (by first | (with_reducible assumption) | assumption); obtain ⟨i024, hi024, _, hsz24, _⟩ := info_parts info3; have hroom24 : l3.length ≤ c3 := HC3.out; have hC24 : Kd.C (Kd.int .i64) _ A3 l3.length l3 := HR3.out; have hcut24 := cut_to (P := Tryd.prog) 22 3 .i64 Tryd.underlying22 hi024 A3 l3.length c3 (ji8) (of_decide_eq_true (by first | (with_reducible assumption) | assumption)) q24 hroom24; have hr24 := Kd.C_take (m := ((ji8) : Int).toNat) hC24 (by omega); have hy24 : y191.length = ((ji8) : Int).toNat := (by rw [Ny191.out, List.length_take]; omega); rw [← Ny191.out] at hr24; rw [← hy24] at hcut24; have HR194 := Aside0.mk hr24; have HC194 := Aside0.mk (show y191.length ≤ c3 from by omega); clear hr24 hC24 hroom24 hi024 hsz24; have KY24 := Aside0.mk hy24; clear hy24; replace q24 := eq_true q24; have q25 : ((ji11) : Int) ≤ ((l4.length : Int) : Int) := of_decide_eq_true (by first | (with_reducible assumption) | assumption); obtain ⟨i025, hi025, _, hsz25, _⟩ := info_parts info3; have hroom25 : l4.length ≤ c4 := HC4.out; have hC25 : Kd.C (Kd.int .i64) _ A4 l4.length l4 := HR4.out; have hcut25 := cut_to (P := Tryd.prog) 22 3 .i64 Tryd.underlying22 hi025 A4 l4.length c4 (ji11) (of_decide_eq_true (by first | (with_reducible assumption) | assumption)) q25 hroom25; have hr25 := Kd.C_take (m := ((ji11) : Int).toNat) hC25 (by omega); have hy25 : y195.length = ((ji11) : Int).toNat := (by rw [Ny195.out, List.length_take]; omega); rw [← Ny195.out] at hr25; rw [← hy25] at hcut25; have HR198 := Aside0.mk hr25; have HC198 := Aside0.mk (show y195.length ≤ c4 from by omega); clear hr25 hC25 hroom25 hi025 hsz25; have KY25 := Aside0.mk hy25; clear hy25; replace q25 := eq_true q25) | ((with_reducible refine gate_callee (f := 12) rfl ?_); refine goesL_ (some 31) rfl rfl Tryd.func12 (by kernel_rfl) rfl #[.int .i64 a0, .int .i64 a1, .int .i64 a2] rfl (by (try simp only [List.map_toArray, List.map_cons, List.map_nil]); first | done | rfl | (simp only [List.length_drop, List.length_take]; rfl)) ?_; (with_reducible refine (systems_Cost.calls k a0 a1 a2 t199 t200 _ A14.out).mono ?_); rintro e w26 ⟨rfl, hb⟩; refine ⟨_, rfl, ?_⟩; have n0_ := Aside0.mk (below_step (by repeat (first | (with_reducible first | exact HB.out | apply below_alloc | apply pw_below_drewN | apply below_drew1) | exact HB.out)) hb); clear HB; have HB := n0_; clear n0_; (try clear hb); (try clear hb2); (try clear hk); (try clear hi)) | ((with_reducible refine gate_callee (f := 13) rfl ?_); refine goesL_ (some 38) rfl rfl Tryd.func13 (by kernel_rfl) rfl #[.int .i64 a0, .int .i64 a1, .int .i64 a2] rfl (by (try simp only [List.map_toArray, List.map_cons, List.map_nil]); first | done | rfl | (simp only [List.length_drop, List.length_take]; rfl)) ?_; (with_reducible refine (partitaref25_Cost.calls k a0 a1 a2 t201 t202 _ A15.out).mono ?_); rintro e w27 ⟨rfl, hb⟩; refine ⟨_, rfl, ?_⟩; have n0_ := Aside0.mk (below_step (by repeat (first | (with_reducible first | exact HB.out | apply below_alloc | apply pw_below_drewN | apply below_drew1) | exact HB.out)) hb); clear HB; have HB := n0_; clear n0_; (try clear hb); (try clear hb2); (try clear hk); (try clear hi)) | ((with_reducible refine gate_callee (f := 14) rfl ?_); refine goesL_ (some 45) rfl rfl Tryd.func14 (by kernel_rfl) rfl #[.slice A3 y191.length c3, .slice A4 y195.length c4, .int .i64 a5] rfl (by (try simp only [List.map_toArray, List.map_cons, List.map_nil]); first | done | rfl | (simp only [List.length_drop, List.length_take]; rfl)) ?_; (with_reducible refine (systems_Break.calls _ _ y191 _ _ y195 a5 t203 t204 _ ?side1 ?side2 ?side3 ?side4 A16.out).mono ?_); (case side1 => repeat (first | exact (Kd.C_below HR194.out HB.out) | (with_reducible refine Kd.C_alloc ?_ _) | (with_reducible refine Kd.C_drewN ?_ _) | (with_reducible refine Kd.C_drew ?_))); (case side2 => exact HC194.out); (case side3 => repeat (first | exact (Kd.C_below HR198.out HB.out) | (with_reducible refine Kd.C_alloc ?_ _) | (with_reducible refine Kd.C_drewN ?_ _) | (with_reducible refine Kd.C_drew ?_))); (case side4 => exact HC198.out); rintro e w28 ⟨v205, rfl, ho0, hb⟩; refine ⟨_, rfl, ?_⟩; have n0_ := Aside0.mk (Kd.R_lower ho0 (below_size (by repeat (first | (with_reducible first | exact HB.out | apply below_alloc | apply pw_below_drewN | apply below_drew1) | exact HB.out)))); have n1_ := Aside0.mk (below_step (by repeat (first | (with_reducible first | exact HB.out | apply below_alloc | apply pw_below_drewN | apply below_drew1) | exact HB.out)) hb); clear HB; have HO206 := n0_; have HB := n1_; clear n0_ n1_; (try clear hb); (try clear hb2); (try clear hk); (try clear hi); (try clear ho0)) | ((with_reducible refine gate_callee (f := 15) rfl ?_); refine goesL_ (some 52) rfl rfl Tryd.func15 (by kernel_rfl) rfl #[.slice A3 y191.length c3, .slice A4 y195.length c4, .int .i64 a5] rfl (by (try simp only [List.map_toArray, List.map_cons, List.map_nil]); first | done | rfl | (simp only [List.length_drop, List.length_take]; rfl)) ?_; (with_reducible refine (partitaref25_Break.calls k _ _ y191 _ _ y195 a5 t207 t208 _ ?side1 ?side2 ?side3 ?side4 A17.out).mono ?_); (case side1 => repeat (first | exact (Kd.C_below HR194.out HB.out) | (with_reducible refine Kd.C_alloc ?_ _) | (with_reducible refine Kd.C_drewN ?_ _) | (with_reducible refine Kd.C_drew ?_))); (case side2 => exact HC194.out); (case side3 => repeat (first | exact (Kd.C_below HR198.out HB.out) | (with_reducible refine Kd.C_alloc ?_ _) | (with_reducible refine Kd.C_drewN ?_ _) | (with_reducible refine Kd.C_drew ?_))); (case side4 => exact HC198.out); rintro e w29 ⟨v209, rfl, ho0, hb⟩; refine ⟨_, rfl, ?_⟩; have n0_ := Aside0.mk (Kd.R_elder' (qR HO206.out) (Kd.R_base ho0) hb); have n1_ := Aside0.mk (Kd.R_lower (Kd.R_new' ho0 (Kd.R_lt (qR HO206.out))) (below_size (by repeat (first | (with_reducible first | exact HB.out | apply below_alloc | apply pw_below_drewN | apply below_drew1) | exact HB.out)))); have n2_ := Aside0.mk (below_step (by repeat (first | (with_reducible first | exact HB.out | apply below_alloc | apply pw_below_drewN | apply below_drew1) | exact HB.out)) hb); clear HO206; clear HB; have HO206 := n0_; have HO210 := n1_; have HB := n2_; clear n0_ n1_ n2_; (try clear hb); (try clear hb2); (try clear hk); (try clear hi); (try clear ho0); obtain ⟨Ao30, co30, eo30⟩ := Kd.R_slice HO206.out; subst eo30; obtain ⟨Ao31, co31, eo31⟩ := Kd.R_slice HO210.out; subst eo31) | (go_at_call 16; (with_reducible refine (partitaref25_Same.calls k _ _ t203 _ _ t207 true _ ?side1 ?side2 ?side3 ?side4 A21.out).mono ?_); (case side1 => repeat (first | exact (Kd.R_reads' HO206.out).2.2 | (with_reducible refine Kd.C_alloc ?_ _) | (with_reducible refine Kd.C_drewN ?_ _) | (with_reducible refine Kd.C_drew ?_))); (case side2 => exact (Kd.R_reads' HO206.out).2.1); (case side3 => repeat (first | exact (Kd.R_reads' HO210.out).2.2 | (with_reducible refine Kd.C_alloc ?_ _) | (with_reducible refine Kd.C_drewN ?_ _) | (with_reducible refine Kd.C_drew ?_))); (case side4 => exact (Kd.R_reads' HO210.out).2.1); rintro e w' ⟨rfl, ⟨nd, rfl⟩⟩))
                 go_ret
                 exact ⟨by first | rfl | (simp [errW_none, errW_some] <;> rfl) | (simp only [← hji8, ← hji11]; first | rfl | (simp [errW_none, errW_some] <;> rfl)) | (simp [*, errW_none, errW_some] <;> rfl), by repeat (first | (with_reducible first | exact HB.out | apply below_alloc | apply pw_below_drewN | apply below_drew1) | exact HB.out)⟩
               · replace c22 := Bool.eq_false_iff.mpr c22
                 subst c22
                 have H1 : none = some r := by rw [if_neg (show ¬ (false = true) by decide)] at H; exact H
                 cases H1
             · rw [if_neg c20] at H
               cases H
           · rw [if_neg c19] at H
             cases H
         · replace c18 := Bool.eq_false_iff.mpr c18
           subst c18
           have H1 : none = some r := by rw [if_neg (show ¬ (false = true) by decide)] at H; exact H
           cases H1
       · rw [if_neg c13] at H
         exact absurd H (by simp)
     · rw [if_neg c12] at H
       exact absurd H (by simp)
   · rw [if_neg c10] at H
     exact absurd H (by simp)
 · rw [if_neg c9] at H
   exact absurd H (by simp)

end Go.Proofs.YtneaoicjbiebkaaDoor.Q
