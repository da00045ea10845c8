-- Written by a program of this session (myprint.py), function by function.
import Derived.Test.YtllccnijipgncaaDoorQ0
import Derived.Test.YtllccnijipgncaaDoorQ4
import Derived.Test.YtllccnijipgncaaDoorQ6
namespace Go.Proofs.YtllccnijipgncaaDoor.Q
open Go.RowKit Go.Proofs.YtllccnijipgncaaDoorW.PrintWords Go.Proofs.YtllccnijipgncaaDoorW.PrintLast Go.Proofs.YtllccnijipgncaaDoorW.PrintMore
attribute [local go_sem] max2_int min2_int max_two min_two max_three min_three max_four min_four   -- for this text's walks alone
set_option linter.unusedVariables false
set_option linter.unusedSimpArgs false

/-! ### partitalaw18_LexCut: function 11 -/
def partitalaw18_LexCut.j0 : Nat → ByteArray → Bool → Int → Bool → Option (Bool)
 | 0, _, _, _, _ => none
 | k + 1, x0, x3, x5, x38 => if x38 = true then none else (if 0 ≤ x5 then (if x5 ≤ (x0.size : Int) then ((lex_Tokens.f k (x0.extract 0 (x5 : Int).toNat)).bind fun bt347 => ((lex_Tokens.f k (x0.extract (x5 : Int).toNat x0.size)).bind fun bt352 => (if x3 = true then (if bt347.2.2 = 0 then (if bt352.2.2 = 180 then (some (bt352.2.1 == 0)) else none) else none) else none))) else (none)) else (none))
def partitalaw18_LexCut.f (k : Nat) (a0 : ByteArray) : Option (Bool) := (partitalaw18_awake.f k).bind fun t341 => (if (a0.size : Int) > 300 then (some t341) else ((lex_Tokens.f k a0).bind fun bt342 => (if bt342.2.2 = 0 then (if t341 = true then (some (bt342.2.1 == 0)) else none) else (if bt342.2.1 < 0 then (partitalaw18_LexCut.j0 k a0 t341 bt342.2.1 true) else (partitalaw18_LexCut.j0 k a0 t341 bt342.2.1 (decide (bt342.2.1 ≥ (a0.size : Int))))))))
theorem partitalaw18_LexCut.mono_l : ∀ k, (∀ y0 y1 y2 y3, LeO (partitalaw18_LexCut.j0 k y0 y1 y2 y3) (partitalaw18_LexCut.j0 (k + 1) y0 y1 y2 y3))
 | 0 => fun _ _ _ _ r h => by simp [partitalaw18_LexCut.j0] at h
 | k + 1 => by
  have ih0 := partitalaw18_LexCut.mono_l k
  · intro y0 y1 y2 y3
    unfold partitalaw18_LexCut.j0
    repeat' first
    | (with_reducible exact ih0 _ _ _ _)
    | (with_reducible exact lex_Tokens.mono _ _)
    | (with_reducible exact partitalaw18_awake.mono _)
    | (with_reducible exact LeO.refl _)
    | (with_reducible exact LeO.none _)
    | (with_reducible refine LeO.ite ?_ ?_)
    | (with_reducible refine LeO.bind ?_ (fun _ => ?_))
    | exact ih0 _ _ _ _
    | exact lex_Tokens.mono _ _
    | exact partitalaw18_awake.mono _
    | exact LeO.none _
    | refine LeO.ite ?_ ?_
    | refine LeO.bind ?_ (fun _ => ?_)
theorem partitalaw18_LexCut.mono : ∀ a0 k, LeO (partitalaw18_LexCut.f k a0) (partitalaw18_LexCut.f (k + 1) a0) := by
 intro a0 k
 have ih0 := partitalaw18_LexCut.mono_l k
 unfold partitalaw18_LexCut.f
 repeat' first
  | (with_reducible exact ih0 _ _ _ _)
  | (with_reducible exact lex_Tokens.mono _ _)
  | (with_reducible exact partitalaw18_awake.mono _)
  | (with_reducible exact LeO.refl _)
  | (with_reducible exact LeO.none _)
  | (with_reducible refine LeO.ite ?_ ?_)
  | (with_reducible refine LeO.bind ?_ (fun _ => ?_))
  | exact ih0 _ _ _ _
  | exact lex_Tokens.mono _ _
  | exact partitalaw18_awake.mono _
  | exact LeO.none _
  | refine LeO.ite ?_ ?_
  | refine LeO.bind ?_ (fun _ => ?_)
set_option maxHeartbeats 8000000 in
set_option maxRecDepth 100000 in
theorem partitalaw18_LexCut.calls (k : Nat) (a0 : ByteArray) (r : Bool) (w : World) (h : partitalaw18_LexCut.f k a0 = some r) (TABS : Aside0 (TabsW w) := by exact tabs_step (by assumption) (by repeat (first | (with_reducible first | exact (by assumption : Aside0 (Below _ _ _)).out | apply below_alloc | apply pw_below_drewN | apply below_drew1)))) :
 Calls Tryd.prog 11 #[.string a0] w fun e w' => e = .returned (.bool r) ∧ Below w.heap.size w w' := by
 have HB := Aside0.mk (Below.refl w.heap.size w)
 have H : ((partitalaw18_awake.f k).bind fun t341 => (if (a0.size : Int) > 300 then (some t341) else ((lex_Tokens.f k a0).bind fun bt342 => (if bt342.2.2 = 0 then (if t341 = true then (some (bt342.2.1 == 0)) else none) else (if bt342.2.1 < 0 then (partitalaw18_LexCut.j0 k a0 t341 bt342.2.1 true) else (partitalaw18_LexCut.j0 k a0 t341 bt342.2.1 (decide (bt342.2.1 ≥ (a0.size : Int))))))))) = some r := h
 clear h
 replace H := Option.bind_eq_some_iff.mp H
 obtain ⟨t341, A20, H⟩ := H
 replace H : (if (a0.size : Int) > 300 then (some t341) else ((lex_Tokens.f k a0).bind fun bt342 => (if bt342.2.2 = 0 then (if t341 = true then (some (bt342.2.1 == 0)) else none) else (if bt342.2.1 < 0 then (partitalaw18_LexCut.j0 k a0 t341 bt342.2.1 true) else (partitalaw18_LexCut.j0 k a0 t341 bt342.2.1 (decide (bt342.2.1 ≥ (a0.size : Int)))))))) = some r := H
 have A2 := Aside0.mk A20
 clear A20
 by_cases c3 : (a0.size : Int) > 300
 · rw [if_pos c3] at H
   have c3b0 : decide (300 < (a0.size : Int)) = true := decide_eq_true c3
   have c3b1 : decide (300 < a0.size) = true := decide_eq_true (by omega)
   clear c3
   obtain rfl := Option.some.inj H
   go_enter Tryd.func11, Tryd.ntmps11
   go_wp2_with (first | ((with_reducible refine gate_callee (f := 12) rfl ?_); refine goesL_ (some 13) rfl rfl Tryd.func12 (by kernel_rfl) rfl #[] rfl (by (try simp only [List.map_toArray, List.map_cons, List.map_nil]); first | done | rfl | (simp only [List.length_drop, List.length_take]; rfl)) ?_; (with_reducible refine (partitalaw18_awake.calls k  t341 _ A2.out).mono ?_); rintro e w4 ⟨rfl, hb⟩; refine ⟨_, rfl, ?_⟩; have n0_ := Aside0.mk (below_step (by repeat (first | (with_reducible first | exact HB.out | apply below_alloc | apply pw_below_drewN | apply below_drew1) | exact HB.out)) hb); clear HB; have HB := n0_; clear n0_; (try clear hb); (try clear hb2); (try clear hk); (try clear hi)))
   go_ret
   exact ⟨by first | rfl | (simp [errW_none, errW_some] <;> rfl) | (simp [*, errW_none, errW_some] <;> rfl), by repeat (first | (with_reducible first | exact HB.out | apply below_alloc | apply pw_below_drewN | apply below_drew1) | exact HB.out)⟩
 · rw [if_neg c3] at H
   have c3b0 : decide (300 < (a0.size : Int)) = false := decide_eq_false c3
   have c3b1 : decide (300 < a0.size) = false := decide_eq_false (by omega)
   clear c3
   replace H := Option.bind_eq_some_iff.mp H
   obtain ⟨⟨t342, t343, t344⟩, A50, H⟩ := H
   replace H : (if t344 = 0 then (if t341 = true then (some (t343 == 0)) else none) else (if t343 < 0 then (partitalaw18_LexCut.j0 k a0 t341 t343 true) else (partitalaw18_LexCut.j0 k a0 t341 t343 (decide (t343 ≥ (a0.size : Int)))))) = some r := H
   have A5 := Aside0.mk A50
   clear A50
   by_cases c6 : t344 = 0
   · rw [if_pos c6] at H
     have c6b0 : (t344 == 0) = true := beq_iff_eq.mpr c6
     have c6b1 : (t344 != 0) = false := bne_eq_false_iff_eq.mpr c6
     clear c6
     by_cases c7 : t341 = true
     · subst c7
       have H1 : (some (t343 == 0)) = some r := by rw [if_pos rfl] at H; exact H
       clear H
       have H := H1
       clear H1
       obtain rfl := Option.some.inj H
       go_enter Tryd.func11, Tryd.ntmps11
       go_wp2_with (first | ((with_reducible refine gate_callee (f := 12) rfl ?_); refine goesL_ (some 13) rfl rfl Tryd.func12 (by kernel_rfl) rfl #[] rfl (by (try simp only [List.map_toArray, List.map_cons, List.map_nil]); first | done | rfl | (simp only [List.length_drop, List.length_take]; rfl)) ?_; (with_reducible refine (partitalaw18_awake.calls k  true _ A2.out).mono ?_); rintro e w8 ⟨rfl, hb⟩; refine ⟨_, rfl, ?_⟩; have n0_ := Aside0.mk (below_step (by repeat (first | (with_reducible first | exact HB.out | apply below_alloc | apply pw_below_drewN | apply below_drew1) | exact HB.out)) hb); clear HB; have HB := n0_; clear n0_; (try clear hb); (try clear hb2); (try clear hk); (try clear hi)) | ((with_reducible refine gate_callee (f := 13) rfl ?_); refine goesL_ (some 20) rfl rfl Tryd.func13 (by kernel_rfl) rfl #[.string a0] rfl (by (try simp only [List.map_toArray, List.map_cons, List.map_nil]); first | done | rfl | (simp only [List.length_drop, List.length_take]; rfl)) ?_; (with_reducible refine (lex_Tokens.calls k a0 t342 t343 t344 _ A5.out).mono ?_); rintro e w9 ⟨v345, rfl, ho0, hb⟩; refine ⟨_, rfl, ?_⟩; have n0_ := Aside0.mk (Kd.R_lower ho0 (below_size (by repeat (first | (with_reducible first | exact HB.out | apply below_alloc | apply pw_below_drewN | apply below_drew1) | exact HB.out)))); have n1_ := Aside0.mk (below_step (by repeat (first | (with_reducible first | exact HB.out | apply below_alloc | apply pw_below_drewN | apply below_drew1) | exact HB.out)) hb); clear HB; have HO346 := n0_; have HB := n1_; clear n0_ n1_; (try clear hb); (try clear hb2); (try clear hk); (try clear hi); (try clear ho0)))
       go_ret
       exact ⟨by first | rfl | (simp [errW_none, errW_some] <;> rfl) | (simp [*, errW_none, errW_some] <;> rfl), by repeat (first | (with_reducible first | exact HB.out | apply below_alloc | apply pw_below_drewN | apply below_drew1) | exact HB.out)⟩
     · replace c7 := Bool.eq_false_iff.mpr c7
       subst c7
       have H1 : none = some r := by rw [if_neg (show ¬ (false = true) by decide)] at H; exact H
       cases H1
   · rw [if_neg c6] at H
     have c6b0 : (t344 == 0) = false := beq_eq_false_iff_ne.mpr c6
     have c6b1 : (t344 != 0) = true := bne_iff_ne.mpr c6
     have HC12 := Aside0.mk H
     clear H
     go_enter Tryd.func11, Tryd.ntmps11
     go_upto_region 7 with (first | ((with_reducible refine gate_callee (f := 12) rfl ?_); refine goesL_ (some 13) rfl rfl Tryd.func12 (by kernel_rfl) rfl #[] rfl (by (try simp only [List.map_toArray, List.map_cons, List.map_nil]); first | done | rfl | (simp only [List.length_drop, List.length_take]; rfl)) ?_; (with_reducible refine (partitalaw18_awake.calls k  t341 _ A2.out).mono ?_); rintro e w13 ⟨rfl, hb⟩; refine ⟨_, rfl, ?_⟩; have n0_ := Aside0.mk (below_step (by repeat (first | (with_reducible first | exact HB.out | apply below_alloc | apply pw_below_drewN | apply below_drew1) | exact HB.out)) hb); clear HB; have HB := n0_; clear n0_; (try clear hb); (try clear hb2); (try clear hk); (try clear hi)) | ((with_reducible refine gate_callee (f := 13) rfl ?_); refine goesL_ (some 20) rfl rfl Tryd.func13 (by kernel_rfl) rfl #[.string a0] rfl (by (try simp only [List.map_toArray, List.map_cons, List.map_nil]); first | done | rfl | (simp only [List.length_drop, List.length_take]; rfl)) ?_; (with_reducible refine (lex_Tokens.calls k a0 t342 t343 t344 _ A5.out).mono ?_); rintro e w14 ⟨v345, rfl, ho0, hb⟩; refine ⟨_, rfl, ?_⟩; have n0_ := Aside0.mk (Kd.R_lower ho0 (below_size (by repeat (first | (with_reducible first | exact HB.out | apply below_alloc | apply pw_below_drewN | apply below_drew1) | exact HB.out)))); have n1_ := Aside0.mk (below_step (by repeat (first | (with_reducible first | exact HB.out | apply below_alloc | apply pw_below_drewN | apply below_drew1) | exact HB.out)) hb); clear HB; have HO346 := n0_; have HB := n1_; clear n0_ n1_; (try clear hb); (try clear hb2); (try clear hk); (try clear hi); (try clear ho0)))
     (try simp only [Act.put, qa_, qz_, qs_])
     go_cut [38] (fun v38 wc => ∃ (kq : Nat) (x38_11 : Bool), v38 = .bool x38_11 ∧ Aside0 (partitalaw18_LexCut.j0 kq a0 t341 t343 x38_11 = some r) ∧ Aside0 (kq ≤ k) ∧ Aside0 (Below w.heap.size w wc))
     case first =>
      have H := HC12.out
      clear HC12
      by_cases c15 : t343 < 0
      · rw [if_pos c15] at H
        have c15b0 : decide (t343 < 0) = true := decide_eq_true c15
        clear c15
        (first | rw [c15b0] | (simp only [i64_w, i32_w]; rw [c15b0]) | skip)
        have H' := Aside0.mk H
        clear H
        go_wp2
        go_meet
        case rel => exact ⟨_, (true), (by first | rfl | (simp; done) | (simp [*]; done) | (simp [wrap64]; done)), H', ⟨by first | omega | exact Nat.le_refl _⟩, ⟨by repeat (first | (with_reducible first | exact HB.out | apply below_alloc | apply pw_below_drewN | apply below_drew1) | exact HB.out)⟩⟩
      · rw [if_neg c15] at H
        have c15b0 : decide (t343 < 0) = false := decide_eq_false c15
        clear c15
        (first | rw [c15b0] | (simp only [i64_w, i32_w]; rw [c15b0]) | skip)
        have H' := Aside0.mk H
        clear H
        go_wp2
        go_meet
        case rel => exact ⟨_, (decide (t343 ≥ (a0.size : Int))), (by first | rfl | (simp; done) | (simp [*]; done) | (simp [wrap64]; done)), H', ⟨by first | omega | exact Nat.le_refl _⟩, ⟨by repeat (first | (with_reducible first | exact HB.out | apply below_alloc | apply pw_below_drewN | apply below_drew1) | exact HB.out)⟩⟩
     case rest =>
      clear HC12
      try clear c1
      try clear p2
      try clear c3
      try clear c3b0
      try clear c3b1
      try clear c6
      try clear c6b0
      try clear c6b1
      try clear c7
      try clear c11
      try clear c12
      try clear c13
      try clear c15
      try clear c15b0
      obtain ⟨kq, x38_11, rfl, HA, HJ11, HB⟩ := hcut
      cases kq with
      | zero => exact absurd HA.out (by simp [partitalaw18_LexCut.j0])
      | succ kj11 =>
       have H := HA.out
       clear HA
       simp only [partitalaw18_LexCut.j0] at H
       by_cases c16 : x38_11 = true
       · subst c16
         have H1 : none = some r := by rw [if_pos rfl] at H; exact H
         cases H1
       · replace c16 := Bool.eq_false_iff.mpr c16
         subst c16
         have H1 : (if 0 ≤ t343 then (if t343 ≤ (a0.size : Int) then ((lex_Tokens.f kj11 (a0.extract 0 (t343 : Int).toNat)).bind fun bt347 => ((lex_Tokens.f kj11 (a0.extract (t343 : Int).toNat a0.size)).bind fun bt352 => (if t341 = true then (if bt347.2.2 = 0 then (if bt352.2.2 = 180 then (some (bt352.2.1 == 0)) else none) else none) else none))) else (none)) else (none)) = some r := by rw [if_neg (show ¬ (false = true) by decide)] at H; exact H
         clear H
         have H := H1
         clear H1
         by_cases c17 : 0 ≤ t343
         · rw [if_pos c17] at H
           have c17b0 := eq_true c17
           have c17b1 : decide (0 ≤ t343) = true := decide_eq_true c17
           clear c17
           by_cases c18 : t343 ≤ (a0.size : Int)
           · rw [if_pos c18] at H
             have c18b0 := eq_true c18
             have c18b1 : decide (t343 ≤ (a0.size : Int)) = true := decide_eq_true c18
             clear c18
             replace H := Option.bind_eq_some_iff.mp H
             obtain ⟨⟨t347, t348, t349⟩, A190, H⟩ := H
             replace H : ((lex_Tokens.f kj11 (a0.extract (t343 : Int).toNat a0.size)).bind fun bt352 => (if t341 = true then (if t349 = 0 then (if bt352.2.2 = 180 then (some (bt352.2.1 == 0)) else none) else none) else none)) = some r := H
             have A19 := Aside0.mk A190
             clear A190
             have c20b0 := eq_true (of_decide_eq_true (by first | (with_reducible assumption) | assumption) : 0 ≤ t343)
             have c21b0 := eq_true (of_decide_eq_true (by first | (with_reducible assumption) | assumption) : t343 ≤ (a0.size : Int))
             replace H := Option.bind_eq_some_iff.mp H
             obtain ⟨⟨t352, t353, t354⟩, A220, H⟩ := H
             replace H : (if t341 = true then (if t349 = 0 then (if t354 = 180 then (some (t353 == 0)) else none) else none) else none) = some r := H
             have A22 := Aside0.mk A220
             clear A220
             by_cases c23 : t341 = true
             · subst c23
               have H1 : (if t349 = 0 then (if t354 = 180 then (some (t353 == 0)) else none) else none) = some r := by rw [if_pos rfl] at H; exact H
               clear H
               have H := H1
               clear H1
               by_cases c24 : t349 = 0
               · rw [if_pos c24] at H
                 have c24b0 : (t349 == 0) = true := beq_iff_eq.mpr c24
                 have c24b1 : (t349 != 0) = false := bne_eq_false_iff_eq.mpr c24
                 clear c24
                 by_cases c25 : t354 = 180
                 · rw [if_pos c25] at H
                   have c25b0 : (t354 == 180) = true := beq_iff_eq.mpr c25
                   have c25b1 : (t354 != 180) = false := bne_eq_false_iff_eq.mpr c25
                   clear c25
                   obtain rfl := Option.some.inj H
                   go_wp2_with (first | ((with_reducible refine gate_callee (f := 13) rfl ?_); refine goesL_ (some 43) rfl rfl Tryd.func13 (by kernel_rfl) rfl #[.string (a0.extract 0 (t343 : Int).toNat)] rfl (by (try simp only [List.map_toArray, List.map_cons, List.map_nil]); first | done | rfl | (simp only [List.length_drop, List.length_take]; rfl)) ?_; (with_reducible refine (lex_Tokens.calls kj11 (a0.extract 0 (t343 : Int).toNat) t347 t348 t349 _ A19.out).mono ?_); rintro e w26 ⟨v350, rfl, ho0, hb⟩; refine ⟨_, rfl, ?_⟩; have n0_ := Aside0.mk (Kd.R_lower ho0 (below_size (by repeat (first | (with_reducible first | exact HB.out | apply below_alloc | apply pw_below_drewN | apply below_drew1) | exact HB.out)))); have n1_ := Aside0.mk (below_step (by repeat (first | (with_reducible first | exact HB.out | apply below_alloc | apply pw_below_drewN | apply below_drew1) | exact HB.out)) hb); clear HB; have HO351 := n0_; have HB := n1_; clear n0_ n1_; (try clear hb); (try clear hb2); (try clear hk); (try clear hi); (try clear ho0)) | ((with_reducible refine gate_callee (f := 13) rfl ?_); refine goesL_ (some 51) rfl rfl Tryd.func13 (by kernel_rfl) rfl #[.string (a0.extract (t343 : Int).toNat a0.size)] rfl (by (try simp only [List.map_toArray, List.map_cons, List.map_nil]); first | done | rfl | (simp only [List.length_drop, List.length_take]; rfl)) ?_; (with_reducible refine (lex_Tokens.calls kj11 (a0.extract (t343 : Int).toNat a0.size) t352 t353 t354 _ A22.out).mono ?_); rintro e w27 ⟨v355, rfl, ho0, hb⟩; refine ⟨_, rfl, ?_⟩; have n0_ := Aside0.mk (Kd.R_elder' (qR HO351.out) (Kd.R_base ho0) hb); have n1_ := Aside0.mk (Kd.R_lower (Kd.R_new' ho0 (Kd.R_lt (qR HO351.out))) (below_size (by repeat (first | (with_reducible first | exact HB.out | apply below_alloc | apply pw_below_drewN | apply below_drew1) | exact HB.out)))); have n2_ := Aside0.mk (below_step (by repeat (first | (with_reducible first | exact HB.out | apply below_alloc | apply pw_below_drewN | apply below_drew1) | exact HB.out)) hb); clear HO351; clear HB; have HO351 := n0_; have HO356 := n1_; have HB := n2_; clear n0_ n1_ n2_; (try clear hb); (try clear hb2); (try clear hk); (try clear hi); (try clear ho0)))
                   go_ret
                   exact ⟨by first | rfl | (simp [errW_none, errW_some] <;> rfl) | (simp [*, errW_none, errW_some] <;> rfl), by repeat (first | (with_reducible first | exact HB.out | apply below_alloc | apply pw_below_drewN | apply below_drew1) | exact HB.out)⟩
                 · rw [if_neg c25] at H
                   cases H
               · rw [if_neg c24] at H
                 cases H
             · replace c23 := Bool.eq_false_iff.mpr c23
               subst c23
               have H1 : none = some r := by rw [if_neg (show ¬ (false = true) by decide)] at H; exact H
               cases H1
           · rw [if_neg c18] at H
             exact absurd H (by simp)
         · rw [if_neg c17] at H
           exact absurd H (by simp)

end Go.Proofs.YtllccnijipgncaaDoor.Q
