-- Written by a program of this session (myprint.py), function by function.
import Derived.Test.YtiifeheejapegaaQ0
import Derived.Test.YtiifeheejapegaaQ2
import Derived.Test.YtiifeheejapegaaQ6
import Derived.Test.YtiifeheejapegaaQ7
namespace Go.Proofs.Ytiifeheejapegaa.Q
open Go.RowKit Go.Proofs.YtiifeheejapegaaW.PrintWords Go.Proofs.YtiifeheejapegaaW.PrintLast Go.Proofs.YtiifeheejapegaaW.PrintMore
attribute [local go_sem] max2_int min2_int max_two min_two max_three min_three max_four min_four   -- for this text's walks alone
set_option linter.unusedVariables false
set_option linter.unusedSimpArgs false

/-! ### partitalaw12_DynLouder: function 10 -/
mutual
def partitalaw12_DynLouder.j0 : Nat → List (S36) → List Int → Bool → Bool → Int → Int → Option (Bool)
  | 0, _, _, _, _, _, _ => none
  | k + 1, x0, x2, x7, x24, x300000, x300001 => if x24 = true then (some x7) else ((dyn_Level.f k x0 x300000 x300001).bind fun bt301 => ((dyn_Velocity.f k x0 x300000 x300001 x2).bind fun bt303 => (if bt303.2 = 0 then (partitalaw12_DynLouder.l0 k x0 x2 x7 bt301.1 bt301.2 bt303.1 ([] : List Int) (wrap64 ((x2.length : Int) - 1)) x300000 x300001) else (if x7 = true then (if bt303.1 = 0 then (if bt301.2 = 0 then (some true) else (some (bt303.2 == bt301.2))) else (some false)) else (some false)))))
def partitalaw12_DynLouder.l0 : Nat → List (S36) → List Int → Bool → Int → Int → Int → List Int → Int → Int → Int → Option (Bool)
  | 0, _, _, _, _, _, _, _, _, _, _ => none
  | k + 1, x0, x2, x7, x8, x9, x10, x12, x13, x300000, x300001 => if x13 ≥ 0 then (if 0 ≤ x13 then (if x13 < (x2.length : Int) then ((some (([rd x2 x13, rd x2 x13] : List Int) : List Int)).bind fun y307 => (if x12.length + y307.length < 17592186044416 then (partitalaw12_DynLouder.l0 k x0 x2 x7 x8 x9 x10 (x12 ++ y307) (wrap64 (x13 - 1)) x300000 x300001) else (none))) else (none)) else (none)) else ((dyn_Velocity.f k x0 x300000 x300001 x12).bind fun bt313 => (if x7 = true then (if x9 = 0 then (if x10 ≥ x8 then (if x10 ≤ (mn (wrap64 (x8 + 25)) 127) then (if bt313.2 = 0 then (some (bt313.1 == x10)) else (some false)) else (some false)) else (some false)) else (some false)) else (some false)))
end
def partitalaw12_DynLouder.f (k : Nat) (l0 : List (S36)) (a1_0 : Int) (a1_1 : Int) (l2 : List Int) : Option (Bool) := (partitalaw12_awake.f k).bind fun t300 => (if (l0.length : Int) > 20 then (partitalaw12_DynLouder.j0 k l0 l2 t300 true a1_0 a1_1) else (partitalaw12_DynLouder.j0 k l0 l2 t300 (decide ((l2.length : Int) > 20)) a1_0 a1_1))
theorem partitalaw12_DynLouder.mono_l : ∀ k, (∀ y0 y1 y2 y3 y4 y5, LeO (partitalaw12_DynLouder.j0 k y0 y1 y2 y3 y4 y5) (partitalaw12_DynLouder.j0 (k + 1) y0 y1 y2 y3 y4 y5)) ∧ (∀ y0 y1 y2 y3 y4 y5 y6 y7 y8 y9, LeO (partitalaw12_DynLouder.l0 k y0 y1 y2 y3 y4 y5 y6 y7 y8 y9) (partitalaw12_DynLouder.l0 (k + 1) y0 y1 y2 y3 y4 y5 y6 y7 y8 y9))
  | 0 => ⟨fun _ _ _ _ _ _ r h => by simp [partitalaw12_DynLouder.j0] at h, fun _ _ _ _ _ _ _ _ _ _ r h => by simp [partitalaw12_DynLouder.l0] at h⟩
  | k + 1 => by
    obtain ⟨ih0, ih1⟩ := partitalaw12_DynLouder.mono_l k
    refine ⟨?_, ?_⟩
    · intro y0 y1 y2 y3 y4 y5
      unfold partitalaw12_DynLouder.j0
      repeat' first
      | (with_reducible exact ih0 _ _ _ _ _ _)
      | (with_reducible exact ih1 _ _ _ _ _ _ _ _ _ _)
      | (with_reducible exact dyn_Level.mono _ _ _ _)
      | (with_reducible exact dyn_Velocity.mono _ _ _ _ _)
      | (with_reducible exact partitalaw12_awake.mono _)
      | (with_reducible exact LeO.refl _)
      | (with_reducible exact LeO.none _)
      | (with_reducible refine LeO.ite ?_ ?_)
      | (with_reducible refine LeO.bind ?_ (fun _ => ?_))
      | exact ih0 _ _ _ _ _ _
      | exact ih1 _ _ _ _ _ _ _ _ _ _
      | exact dyn_Level.mono _ _ _ _
      | exact dyn_Velocity.mono _ _ _ _ _
      | exact partitalaw12_awake.mono _
      | exact LeO.none _
      | refine LeO.ite ?_ ?_
      | refine LeO.bind ?_ (fun _ => ?_)
    · intro y0 y1 y2 y3 y4 y5 y6 y7 y8 y9
      unfold partitalaw12_DynLouder.l0
      repeat' first
      | (with_reducible exact ih0 _ _ _ _ _ _)
      | (with_reducible exact ih1 _ _ _ _ _ _ _ _ _ _)
      | (with_reducible exact dyn_Level.mono _ _ _ _)
      | (with_reducible exact dyn_Velocity.mono _ _ _ _ _)
      | (with_reducible exact partitalaw12_awake.mono _)
      | (with_reducible exact LeO.refl _)
      | (with_reducible exact LeO.none _)
      | (with_reducible refine LeO.ite ?_ ?_)
      | (with_reducible refine LeO.bind ?_ (fun _ => ?_))
      | exact ih0 _ _ _ _ _ _
      | exact ih1 _ _ _ _ _ _ _ _ _ _
      | exact dyn_Level.mono _ _ _ _
      | exact dyn_Velocity.mono _ _ _ _ _
      | exact partitalaw12_awake.mono _
      | exact LeO.none _
      | refine LeO.ite ?_ ?_
      | refine LeO.bind ?_ (fun _ => ?_)
theorem partitalaw12_DynLouder.mono : ∀ a0 a1 a2 a3 k, LeO (partitalaw12_DynLouder.f k a0 a1 a2 a3) (partitalaw12_DynLouder.f (k + 1) a0 a1 a2 a3) := by
  intro a0 a1 a2 a3 k
  obtain ⟨ih0, ih1⟩ := partitalaw12_DynLouder.mono_l k
  unfold partitalaw12_DynLouder.f
  repeat' first
      | (with_reducible exact ih0 _ _ _ _ _ _)
      | (with_reducible exact ih1 _ _ _ _ _ _ _ _ _ _)
      | (with_reducible exact dyn_Level.mono _ _ _ _)
      | (with_reducible exact dyn_Velocity.mono _ _ _ _ _)
      | (with_reducible exact partitalaw12_awake.mono _)
      | (with_reducible exact LeO.refl _)
      | (with_reducible exact LeO.none _)
      | (with_reducible refine LeO.ite ?_ ?_)
      | (with_reducible refine LeO.bind ?_ (fun _ => ?_))
      | exact ih0 _ _ _ _ _ _
      | exact ih1 _ _ _ _ _ _ _ _ _ _
      | exact dyn_Level.mono _ _ _ _
      | exact dyn_Velocity.mono _ _ _ _ _
      | exact partitalaw12_awake.mono _
      | exact LeO.none _
      | refine LeO.ite ?_ ?_
      | refine LeO.bind ?_ (fun _ => ?_)
def partitalaw12_DynLouder.T12 : Bool × List (List Nat × List Nat) := (true, [([], []), ([], []), ([], []), ([1, 2], [1, 2]), ([3], [3]), ([], []), ([], []), ([5, 6], [5, 6]), ([7], [7]), ([4, 8], [4, 8]), ([0, 9], [0, 9]), ([10, 10, 0, 1, 2, 3, 4, 5, 6, 7, 8, 9, 10], [0, 10])])
def partitalaw12_DynLouder.B12 : List Nat := [0, 0, 0, 6, 14, 0, 0, 96, 224, 510, 1023, 2047]
theorem partitalaw12_DynLouder.tab12 : rtab .any (opsOf Try.f10 12) = partitalaw12_DynLouder.T12 := by kernel_rfl
theorem partitalaw12_DynLouder.bits12 : waitsOk partitalaw12_DynLouder.T12.2 partitalaw12_DynLouder.B12 = true := by kernel_rfl
set_option maxHeartbeats 8000000 in
set_option maxRecDepth 100000 in
theorem partitalaw12_DynLouder.calls (k : Nat) (A0 : Option Addr) (c0 : Nat) (l0 : List (S36)) (a1_0 : Int) (a1_1 : Int) (A2 : Option Addr) (c2 : Nat) (l2 : List Int) (r : Bool) (w : World) (hr0 : Kd.C k36 w A0 l0.length l0) (hc0 : l0.length ≤ c0) (hr2 : Kd.C (Kd.int .i64) w A2 l2.length l2) (hc2 : l2.length ≤ c2) (h : partitalaw12_DynLouder.f k l0 a1_0 a1_1 l2 = some r) :
    Calls Try.prog 10 #[.slice A0 l0.length c0, .agg #[.int .i64 a1_0, .int .i64 a1_1], .slice A2 l2.length c2] w fun e w' => e = .returned (.bool r) ∧ Below w.heap.size w w' := by
  have hu29 := Try.underlying29
  have HR0 := Aside0.mk hr0
  have HC0 := Aside0.mk hc0
  clear hr0 hc0
  have HR2 := Aside0.mk hr2
  have HC2 := Aside0.mk hc2
  clear hr2 hc2
  have HB := Aside0.mk (Below.refl w.heap.size w)
  have H : ((partitalaw12_awake.f k).bind fun t300 => (if (l0.length : Int) > 20 then (partitalaw12_DynLouder.j0 k l0 l2 t300 true a1_0 a1_1) else (partitalaw12_DynLouder.j0 k l0 l2 t300 (decide ((l2.length : Int) > 20)) a1_0 a1_1))) = some r := h
  clear h
  replace H := Option.bind_eq_some_iff.mp H
  obtain ⟨t300, A40, H⟩ := H
  replace H : (if (l0.length : Int) > 20 then (partitalaw12_DynLouder.j0 k l0 l2 t300 true a1_0 a1_1) else (partitalaw12_DynLouder.j0 k l0 l2 t300 (decide ((l2.length : Int) > 20)) a1_0 a1_1)) = some r := H
  have A4 := Aside0.mk A40
  clear A40
  have HC5 := Aside0.mk H
  clear H
  go_enter Try.func10, Try.ntmps10
  go_upto_region 2 with (first | ((with_reducible refine gate_dst (N := 4) rfl ?_); (try (refine gate_guard (by rfl) ?_; dsimp only)); refine box_event ?hg (N := 4) ?hd (cs := #[.int .i64 a1_0, .int .i64 a1_1]) (t := 29) ?hr ?_; (case hd => rfl); (case hg => rfl); (case hr => first | (go_simp; done) | (go_simp; rfl)); intro gb299 hg w6 hbox hb; have n0_ := Aside0.mk (below_step (by repeat (first | (with_reducible first | exact HB.out | apply below_alloc | apply pw_below_drewN | apply below_drew1) | exact HB.out)) hb); have n1_ := Aside0.mk (hbox); have n2_ := Aside0.mk ((by rw [hg]; exact (below_size (by repeat (first | (with_reducible first | exact HB.out | apply below_alloc | apply pw_below_drewN | apply below_drew1) | exact HB.out))) : w.heap.size ≤ gb299)); have n3_ := Aside0.mk ((by rw [hg]; exact (below_size (by repeat (first | (with_reducible first | exact HB.out | apply below_alloc | apply pw_below_drewN | apply below_drew1) | exact HB.out))) : w.heap.size ≤ gb299)); clear HB; have HB := n0_; have BK299 := n1_; have GW299 := n2_; have GE299 := n3_; clear n0_ n1_ n2_ n3_; clear hb hbox hg) | ((with_reducible refine gate_callee (f := 12) rfl ?_); refine goesL_ (some 16) rfl rfl Try.func12 (by kernel_rfl) rfl #[] rfl (by (try simp only [List.map_toArray, List.map_cons, List.map_nil]); first | done | rfl | (simp only [List.length_drop, List.length_take]; rfl)) ?_; (with_reducible refine (partitalaw12_awake.calls k  t300 _ A4.out).mono ?_); rintro e w7 ⟨rfl, hb⟩; refine ⟨_, rfl, ?_⟩; have n0_ := Aside0.mk (blk_below (g := gb299) (o := .cells #[.int .i64 a1_0, .int .i64 a1_1] 29 (0, 0)) (by (with_reducible repeat (first | refine blk_drewN ?_ _ | refine blk_drew ?_ | refine blk_alloc ?_ _)); exact BK299.out) hb); have n1_ := Aside0.mk (below_step (by repeat (first | (with_reducible first | exact HB.out | apply below_alloc | apply pw_below_drewN | apply below_drew1 | refine below_set ?_ GE299.out) | exact HB.out)) hb); clear BK299; clear HB; have BK299 := n0_; have HB := n1_; clear n0_ n1_; (try clear hb); (try clear hb2); (try clear hk); (try clear hi)))
  (try simp only [Act.put, List.setIfInBounds_toArray, List.set_cons_zero, List.set_cons_succ])
  go_cut [24] (fun v24 wc => ∃ (kq : Nat) (x24_4 : Bool), v24 = .bool x24_4 ∧ Aside0 (partitalaw12_DynLouder.j0 kq l0 l2 t300 x24_4 a1_0 a1_1 = some r) ∧ Aside0 (kq ≤ k) ∧ Aside0 (wc.heap[gb299]? = some (.cells #[.int .i64 a1_0, .int .i64 a1_1] 29 (0, 0))) ∧ Aside0 (Below w.heap.size w wc))
  case first =>
    have H := HC5.out
    clear HC5
    by_cases c8 : (l0.length : Int) > 20
    · rw [if_pos c8] at H
      have c8b0 : decide (20 < (l0.length : Int)) = true := decide_eq_true c8
      have c8b1 : decide (20 < l0.length) = true := decide_eq_true (by omega)
      clear c8
      (first | rw [c8b0] | (simp only [i64_w, i32_w]; rw [c8b0]) | skip)
      have H' := Aside0.mk H
      clear H
      go_wp2
      go_meet
      case rel => exact ⟨_, (true), (by first | rfl | (simp; done) | (simp [*]; done)), H', ⟨by first | omega | exact Nat.le_refl _⟩, ⟨by (with_reducible repeat (first | refine blk_drewN ?_ _ | refine blk_drew ?_ | refine blk_alloc ?_ _)); exact BK299.out⟩, ⟨by repeat (first | (with_reducible first | exact HB.out | apply below_alloc | apply pw_below_drewN | apply below_drew1 | refine below_set ?_ GE299.out) | exact HB.out)⟩⟩
    · rw [if_neg c8] at H
      have c8b0 : decide (20 < (l0.length : Int)) = false := decide_eq_false c8
      have c8b1 : decide (20 < l0.length) = false := decide_eq_false (by omega)
      clear c8
      (first | rw [c8b0] | (simp only [i64_w, i32_w]; rw [c8b0]) | skip)
      have H' := Aside0.mk H
      clear H
      go_wp2
      go_meet
      case rel => exact ⟨_, (decide ((l2.length : Int) > 20)), (by first | rfl | (simp; done) | (simp [*]; done)), H', ⟨by first | omega | exact Nat.le_refl _⟩, ⟨by (with_reducible repeat (first | refine blk_drewN ?_ _ | refine blk_drew ?_ | refine blk_alloc ?_ _)); exact BK299.out⟩, ⟨by repeat (first | (with_reducible first | exact HB.out | apply below_alloc | apply pw_below_drewN | apply below_drew1 | refine below_set ?_ GE299.out) | exact HB.out)⟩⟩
  case rest =>
    clear HC5
    try clear c1
    try clear c2
    try clear p2
    try clear c8
    try clear c8b0
    try clear c8b1
    obtain ⟨kq, x24_4, rfl, HA, HJ4, BK299, HB⟩ := hcut
    cases kq with
    | zero => exact absurd HA.out (by simp [partitalaw12_DynLouder.j0])
    | succ kj4 =>
      have H := HA.out
      clear HA
      simp only [partitalaw12_DynLouder.j0] at H
      by_cases c9 : x24_4 = true
      · subst c9
        have H1 : (some t300) = some r := by rw [if_pos rfl] at H; exact H
        clear H
        have H := H1
        clear H1
        obtain rfl := Option.some.inj H
        go_wp2
        go_ret
        exact ⟨by first | rfl | (simp [errW_none, errW_some] <;> rfl) | (simp [*, errW_none, errW_some] <;> rfl), by repeat (first | (with_reducible first | exact HB.out | apply below_alloc | apply pw_below_drewN | apply below_drew1 | refine below_set ?_ GE299.out) | exact HB.out)⟩
      · replace c9 := Bool.eq_false_iff.mpr c9
        subst c9
        have H1 : ((dyn_Level.f kj4 l0 a1_0 a1_1).bind fun bt301 => ((dyn_Velocity.f kj4 l0 a1_0 a1_1 l2).bind fun bt303 => (if bt303.2 = 0 then (partitalaw12_DynLouder.l0 kj4 l0 l2 t300 bt301.1 bt301.2 bt303.1 ([] : List Int) (wrap64 ((l2.length : Int) - 1)) a1_0 a1_1) else (if t300 = true then (if bt303.1 = 0 then (if bt301.2 = 0 then (some true) else (some (bt303.2 == bt301.2))) else (some false)) else (some false))))) = some r := by rw [if_neg (show ¬ (false = true) by decide)] at H; exact H
        clear H
        have H := H1
        clear H1
        replace H := Option.bind_eq_some_iff.mp H
        obtain ⟨⟨t301, t302⟩, A100, H⟩ := H
        replace H : ((dyn_Velocity.f kj4 l0 a1_0 a1_1 l2).bind fun bt303 => (if bt303.2 = 0 then (partitalaw12_DynLouder.l0 kj4 l0 l2 t300 t301 t302 bt303.1 ([] : List Int) (wrap64 ((l2.length : Int) - 1)) a1_0 a1_1) else (if t300 = true then (if bt303.1 = 0 then (if t302 = 0 then (some true) else (some (bt303.2 == t302))) else (some false)) else (some false)))) = some r := H
        have A10 := Aside0.mk A100
        clear A100
        replace H := Option.bind_eq_some_iff.mp H
        obtain ⟨⟨t303, t304⟩, A110, H⟩ := H
        replace H : (if t304 = 0 then (partitalaw12_DynLouder.l0 kj4 l0 l2 t300 t301 t302 t303 ([] : List Int) (wrap64 ((l2.length : Int) - 1)) a1_0 a1_1) else (if t300 = true then (if t303 = 0 then (if t302 = 0 then (some true) else (some (t304 == t302))) else (some false)) else (some false))) = some r := H
        have A11 := Aside0.mk A110
        clear A110
        by_cases c12 : t304 = 0
        · rw [if_pos c12] at H
          have c12b0 : (t304 == 0) = true := beq_iff_eq.mpr c12
          have c12b1 : (t304 != 0) = false := bne_eq_false_iff_eq.mpr c12
          clear c12
          have H' := Aside0.mk H
          clear H
          have hcz13_0 : wc.cell? ⟨gb299, 0, none⟩ = some (.int .i64 a1_0) := (blk_cell BK299.out 0).trans rfl
          have hcz13_1 : wc.cell? ⟨gb299, 1, none⟩ = some (.int .i64 a1_1) := (blk_cell BK299.out 1).trans rfl
          have hfz13_0 := blk_frozen BK299.out 0
          have hfz13_1 := blk_frozen BK299.out 1
          go_wp2_with (first | ((with_reducible refine gate_callee (f := 15) rfl ?_); refine goesL_ (some 29) rfl rfl Try.func15 (by kernel_rfl) rfl #[.slice A0 l0.length c0, .agg #[.int .i64 a1_0, .int .i64 a1_1]] rfl (by (try simp only [List.map_toArray, List.map_cons, List.map_nil]); first | done | rfl | (simp only [List.length_drop, List.length_take]; rfl)) ?_; (with_reducible refine (dyn_Level.calls kj4 _ _ l0 a1_0 a1_1 t301 t302 _ ?side1 ?side2 A10.out).mono ?_); (case side1 => repeat (first | exact (Kd.C_below HR0.out HB.out) | (with_reducible refine Kd.C_alloc ?_ _) | (with_reducible refine Kd.C_drewN ?_ _) | (with_reducible refine Kd.C_drew ?_))); (case side2 => exact HC0.out); rintro e w14 ⟨rfl, hb⟩; refine ⟨_, rfl, ?_⟩; have n0_ := Aside0.mk (blk_below (g := gb299) (o := .cells #[.int .i64 a1_0, .int .i64 a1_1] 29 (0, 0)) (by (with_reducible repeat (first | refine blk_drewN ?_ _ | refine blk_drew ?_ | refine blk_alloc ?_ _)); exact BK299.out) hb); have n1_ := Aside0.mk (below_step (by repeat (first | (with_reducible first | exact HB.out | apply below_alloc | apply pw_below_drewN | apply below_drew1 | refine below_set ?_ GE299.out) | exact HB.out)) hb); clear BK299; clear HB; have BK299 := n0_; have HB := n1_; clear n0_ n1_; (try clear hb); (try clear hb2); (try clear hk); (try clear hi); have hcz15_0 : w14.cell? ⟨gb299, 0, none⟩ = some (.int .i64 a1_0) := (blk_cell BK299.out 0).trans rfl; have hcz15_1 : w14.cell? ⟨gb299, 1, none⟩ = some (.int .i64 a1_1) := (blk_cell BK299.out 1).trans rfl; have hfz15_0 := blk_frozen BK299.out 0; have hfz15_1 := blk_frozen BK299.out 1) | ((with_reducible refine gate_callee (f := 17) rfl ?_); refine goesL_ (some 36) rfl rfl Try.func17 (by kernel_rfl) rfl #[.slice A0 l0.length c0, .agg #[.int .i64 a1_0, .int .i64 a1_1], .slice A2 l2.length c2] rfl (by (try simp only [List.map_toArray, List.map_cons, List.map_nil]); first | done | rfl | (simp only [List.length_drop, List.length_take]; rfl)) ?_; (with_reducible refine (dyn_Velocity.calls kj4 _ _ l0 a1_0 a1_1 _ _ l2 t303 t304 _ ?side1 ?side2 ?side3 ?side4 A11.out).mono ?_); (case side1 => repeat (first | exact (Kd.C_below HR0.out HB.out) | (with_reducible refine Kd.C_alloc ?_ _) | (with_reducible refine Kd.C_drewN ?_ _) | (with_reducible refine Kd.C_drew ?_))); (case side2 => exact HC0.out); (case side3 => repeat (first | exact (Kd.C_below HR2.out HB.out) | (with_reducible refine Kd.C_alloc ?_ _) | (with_reducible refine Kd.C_drewN ?_ _) | (with_reducible refine Kd.C_drew ?_))); (case side4 => exact HC2.out); rintro e w16 ⟨rfl, hb⟩; refine ⟨_, rfl, ?_⟩; have n0_ := Aside0.mk (blk_below (g := gb299) (o := .cells #[.int .i64 a1_0, .int .i64 a1_1] 29 (0, 0)) (by (with_reducible repeat (first | refine blk_drewN ?_ _ | refine blk_drew ?_ | refine blk_alloc ?_ _)); exact BK299.out) hb); have n1_ := Aside0.mk (below_step (by repeat (first | (with_reducible first | exact HB.out | apply below_alloc | apply pw_below_drewN | apply below_drew1 | refine below_set ?_ GE299.out) | exact HB.out)) hb); clear BK299; clear HB; have BK299 := n0_; have HB := n1_; clear n0_ n1_; (try clear hb); (try clear hb2); (try clear hk); (try clear hi)))
          go_loopg [12, 13] kj4 (fun kq v12 v13 w' => ∃ (x12_2 : List Int) (x13_2 : Int), v13 = .int .i64 x13_2 ∧ Aside0 (partitalaw12_DynLouder.l0 kq l0 l2 t300 t301 t302 t303 x12_2 x13_2 a1_0 a1_1 = some r) ∧ Aside0 (kq ≤ kj4) ∧ Aside0 (Kd.R (Kd.int .i64) 3 w' w.heap.size (fun _ => True) v12 x12_2) ∧ Aside0 (w'.heap[gb299]? = some (.cells #[.int .i64 a1_0, .int .i64 a1_1] 29 (0, 0))) ∧ Aside0 (Below w.heap.size w w'))
          case atStart => exact ⟨(([] : List Int)), (wrap64 ((l2.length : Int) - 1)), (by first | rfl | (simp; done) | (simp [*]; done)), H', ⟨Nat.le_refl _⟩, ⟨by first | exact Kd.R_nil _ _ _ _ _ | exact Kd.N_nil _ _ _ _ _ | exact Kd.V_nil _ _ _ _ _ | exact Kd.Q_nil _ _ _ _ _ | exact Kd.S_nil _ _ _ _ _⟩, ⟨by (with_reducible repeat (first | refine blk_drewN ?_ _ | refine blk_drew ?_ | refine blk_alloc ?_ _)); exact BK299.out⟩, ⟨by repeat (first | (with_reducible first | exact HB.out | apply below_alloc | apply pw_below_drewN | apply below_drew1 | refine below_set ?_ GE299.out) | exact HB.out)⟩⟩
          case round =>
            clear H'
            try clear c1
            try clear c2
            try clear p2
            try clear p6
            try clear c8
            try clear c8b0
            try clear c8b1
            try clear c9
            try clear c10
            try clear c12
            try clear c12b0
            try clear c12b1
            try clear c15
            try clear hcz13_0
            try clear hcz13_1
            try clear hcz15_0
            try clear hcz15_1
            try clear hfz13_0
            try clear hfz13_1
            try clear hfz15_0
            try clear hfz15_1
            try clear p2
            obtain ⟨x12_2, x13_2, rfl, HA, HK2, HO_12, BK299, HB⟩ := hrel
            cases gk with
            | zero => exact absurd HA.out (by simp [partitalaw12_DynLouder.l0])
            | succ k2 =>
              have H := HA.out
              clear HA
              simp only [partitalaw12_DynLouder.l0] at H
              by_cases c17 : x13_2 ≥ 0
              · rw [if_pos c17] at H
                have c17b0 : decide (0 ≤ x13_2) = true := decide_eq_true c17
                clear c17
                by_cases c18 : 0 ≤ x13_2
                · rw [if_pos c18] at H
                  have c18b0 : decide (0 ≤ x13_2) = true := decide_eq_true c18
                  clear c18
                  by_cases c19 : x13_2 < (l2.length : Int)
                  · rw [if_pos c19] at H
                    have c19b0 : decide (x13_2 < (l2.length : Int)) = true := decide_eq_true c19
                    clear c19
                    obtain ⟨y307, hy307⟩ : ∃ y_ : List Int, y_ = (([rd l2 x13_2, rd l2 x13_2] : List Int)) := ⟨_, rfl⟩
                    replace H : (if x12_2.length + y307.length < 17592186044416 then (partitalaw12_DynLouder.l0 k2 l0 l2 t300 t301 t302 t303 (x12_2 ++ y307) (wrap64 (x13_2 - 1)) a1_0 a1_1) else (none)) = some r := by first | (rw [hy307]; with_reducible exact H) | (have H2_ := (Option.bind_some _ _).symm.trans H; rw [hy307]; with_reducible exact H2_) | (have H2_ := (Option.bind_some _ _).symm.trans H; with_reducible exact H2_) | with_reducible exact H | (rw [hy307]; exact H) | exact H
                    have Ny307 := Aside0.mk hy307
                    clear hy307
                    by_cases c20 : x12_2.length + y307.length < 17592186044416
                    · rw [if_pos c20] at H
                      have LMc20 := Aside0.mk c20
                      clear c20
                      obtain ⟨y310, hy310⟩ : ∃ y_ : List Int, y_ = (x12_2 ++ y307) := ⟨_, rfl⟩
                      replace H : (partitalaw12_DynLouder.l0 k2 l0 l2 t300 t301 t302 t303 y310 (wrap64 (x13_2 - 1)) a1_0 a1_1) = some r := by first | (rw [hy310]; with_reducible exact H) | (have H2_ := (Option.bind_some _ _).symm.trans H; rw [hy310]; with_reducible exact H2_) | (have H2_ := (Option.bind_some _ _).symm.trans H; with_reducible exact H2_) | with_reducible exact H | (rw [hy310]; exact H) | exact H
                      have Ny310 := Aside0.mk hy310
                      clear hy310
                      have H' := Aside0.mk H
                      clear H
                      try go_wp2
                      have n0_ := Aside0.mk (Kd.R_drew HO_12.out)
                      have n1_ := Aside0.mk (blk_drew BK299.out)
                      have n2_ := Aside0.mk (below_drew1 HB.out)
                      clear HO_12
                      clear BK299
                      clear HB
                      have HO_12 := n0_
                      have BK299 := n1_
                      have HB := n2_
                      clear n0_ n1_ n2_
                      have p305 : 0 ≤ (x13_2 : Int) := of_decide_eq_true (by first | (with_reducible assumption) | assumption)
                      have q305 : x13_2 < (l2.length : Int) := of_decide_eq_true (by first | (with_reducible assumption) | assumption)
                      obtain ⟨ad305, e305, hx305_0⟩ := Kd.at_int HR2.out x13_2 p305 q305
                      have hw305_0 := hx305_0
                      cases e305
                      replace hx305_0 := (HB.out.cell (World.block_lt_of_cell? w _ hx305_0)).trans hx305_0
                      replace p305 := eq_true p305
                      replace q305 := eq_true q305
                      have p306 : 0 ≤ (x13_2 : Int) := of_decide_eq_true (by first | (with_reducible assumption) | assumption)
                      have q306 : x13_2 < (l2.length : Int) := of_decide_eq_true (by first | (with_reducible assumption) | assumption)
                      obtain ⟨ad306, e306, hx306_0⟩ := Kd.at_int HR2.out x13_2 p306 q306
                      have hw306_0 := hx306_0
                      obtain rfl : ad305 = ad306 := (by injection e306)
                      replace hx306_0 := (HB.out.cell (World.block_lt_of_cell? w _ hx306_0)).trans hx306_0
                      replace p306 := eq_true p306
                      replace q306 := eq_true q306
                      refine start_ (n := 12) (S := fun w' => w'.cell? (ad305.add (x13_2).toNat) = some (.int .i64 (rd l2 x13_2)) ∧ w'.cell? (ad305.add (x13_2).toNat) = some (.int .i64 (rd l2 x13_2))) (ds := []) #[false, false, false, false, false, false, false, false, false, false, false, false] (by kernel_rfl) rfl rfl ⟨((HB.out.cell (World.block_lt_of_cell? w _ hw305_0)).trans hw305_0), ((HB.out.cell (World.block_lt_of_cell? w _ hw306_0)).trans hw306_0)⟩ (fun hHeld => ?_); refine with_tabW partitalaw12_DynLouder.tab12 partitalaw12_DynLouder.bits12 (fun HT_ HW_ => ?_)
                      generalize wr.drew = w21 at HO_12 BK299 HB hx305_0 hx306_0 hHeld ⊢
                      refine pure_ (i := 0) (N := some 62) (v := ?_) (a' := ?_) #[true, false, false, false, false, false, false, false, false, false, false, false] rfl rfl (any_of HT_.out (by kernel_rfl)) (fun _ _ _ h => h) (Or.inl ⟨by rfl, ?_⟩) ?_ ?_
                      rotate_left
                      · intro w'
                        go_simp
                        with_reducible rfl
                      rotate_left
                      · simp only [Act.put, List.setIfInBounds_toArray, List.set_cons_zero, List.set_cons_succ, i64_w, i32_w]
                        rfl
                      refine pure_ (i := 1) (N := some 63) (v := ?_) (a' := ?_) #[true, true, false, false, false, false, false, false, false, false, false, false] rfl rfl (any_of HT_.out (by kernel_rfl)) (fun _ _ _ h => h) (Or.inl ⟨by rfl, ?_⟩) ?_ ?_
                      rotate_left
                      · intro w'
                        go_simp
                        with_reducible rfl
                      rotate_left
                      · simp only [Act.put, List.setIfInBounds_toArray, List.set_cons_zero, List.set_cons_succ, i64_w, i32_w]
                        rfl
                      refine pure_ (i := 2) (N := some 64) (v := ?_) (a' := ?_) #[true, true, true, false, false, false, false, false, false, false, false, false] rfl rfl (any_of HT_.out (by kernel_rfl)) (fun _ _ _ h => h) (Or.inl ⟨by rfl, ?_⟩) ?_ ?_
                      rotate_left
                      · intro w'
                        go_simp
                        with_reducible rfl
                      rotate_left
                      · simp only [Act.put, List.setIfInBounds_toArray, List.set_cons_zero, List.set_cons_succ, i64_w, i32_w]
                        rfl
                      refine pure_ (i := 3) (N := some 65) (v := ?_) (a' := ?_) #[true, true, true, true, false, false, false, false, false, false, false, false] rfl rfl (any_of HT_.out (by kernel_rfl)) (fun _ _ _ h => h) (Or.inl ⟨by rfl, ?_⟩) ?_ ?_
                      rotate_left
                      · intro w'
                        go_simp
                        with_reducible rfl
                      rotate_left
                      · simp only [Act.put, List.setIfInBounds_toArray, List.set_cons_zero, List.set_cons_succ, i64_w, i32_w]
                        rfl
                      refine pure_ (i := 5) (N := some 67) (v := ?_) (a' := ?_) #[true, true, true, true, false, true, false, false, false, false, false, false] rfl rfl (any_of HT_.out (by kernel_rfl)) (fun _ _ _ h => h) (Or.inl ⟨by rfl, ?_⟩) ?_ ?_
                      rotate_left
                      · intro w'
                        go_simp
                        with_reducible rfl
                      rotate_left
                      · simp only [Act.put, List.setIfInBounds_toArray, List.set_cons_zero, List.set_cons_succ, i64_w, i32_w]
                        rfl
                      refine pure_ (i := 6) (N := some 68) (v := ?_) (a' := ?_) #[true, true, true, true, false, true, true, false, false, false, false, false] rfl rfl (any_of HT_.out (by kernel_rfl)) (fun _ _ _ h => h) (Or.inl ⟨by rfl, ?_⟩) ?_ ?_
                      rotate_left
                      · intro w'
                        go_simp
                        with_reducible rfl
                      rotate_left
                      · simp only [Act.put, List.setIfInBounds_toArray, List.set_cons_zero, List.set_cons_succ, i64_w, i32_w]
                        rfl
                      refine pure_ (i := 7) (N := some 69) (v := ?_) (a' := ?_) #[true, true, true, true, false, true, true, true, false, false, false, false] rfl rfl (any_of HT_.out (by kernel_rfl)) (fun _ _ _ h => h) (Or.inl ⟨by rfl, ?_⟩) ?_ ?_
                      rotate_left
                      · intro w'
                        go_simp
                        with_reducible rfl
                      rotate_left
                      · simp only [Act.put, List.setIfInBounds_toArray, List.set_cons_zero, List.set_cons_succ, i64_w, i32_w]
                        rfl
                      refine take_ (i := 4) (N := some 66) (v := ?_) (a' := ?_) #[true, true, true, true, true, true, true, true, false, false, false, false] rfl rfl (take_ofW HT_.out HW_.out (by kernel_rfl)) (fun _ _ _ h => h) (Or.inl ⟨by rfl, ?_⟩) hHeld ?_ ?_
                      rotate_left
                      · rintro w' ⟨s0, s1⟩
                        go_simp
                        with_reducible rfl
                      rotate_left
                      · simp only [Act.put, List.setIfInBounds_toArray, List.set_cons_zero, List.set_cons_succ, i64_w, i32_w]
                        rfl
                      refine take_ (i := 8) (N := some 70) (v := ?_) (a' := ?_) #[true, true, true, true, true, true, true, true, true, false, false, false] rfl rfl (take_ofW HT_.out HW_.out (by kernel_rfl)) (fun _ _ _ h => h) (Or.inl ⟨by rfl, ?_⟩) hHeld ?_ ?_
                      rotate_left
                      · rintro w' ⟨s0, s1⟩
                        go_simp
                        with_reducible rfl
                      rotate_left
                      · simp only [Act.put, List.setIfInBounds_toArray, List.set_cons_zero, List.set_cons_succ, i64_w, i32_w]
                        rfl
                      refine one_ (i := 9) (N := some 71) #[true, true, true, true, true, true, true, true, true, true, false, false] rfl rfl (one_of HT_.out (by kernel_rfl)) (by decide) (fun K hK => ?_)
                      refine Kd.R_lit_step (Kd.int .i64) _ 3 ?hg (N := 71) ?hd (xs := ([rd l2 x13_2, rd l2 x13_2] : List Int)) (inner := [.int .i64 (rd l2 x13_2), .int .i64 (rd l2 x13_2)]) (ok := fun _ => True) (okp := fun _ => True) ?hr ?hp (fun _ hk => hk) trivial (Below.refl _ _) (Nat.le_refl _) (by simp) ?_; (case hd => rfl); (case hg => rfl); (case hr => first | (go_simp; done) | (go_simp; rfl)); (case hp => exact (Reps.one (show Kd.M (Kd.int .i64) _ _ _ (rd l2 x13_2) [.int .i64 (rd l2 x13_2)] from rfl) (Reps.one (show Kd.M (Kd.int .i64) _ _ _ (rd l2 x13_2) [.int .i64 (rd l2 x13_2)] from rfl) (Reps.none _ _))))
                      intro v308 w22 ho23 hb hg_ hnew_
                      clear hg_ hnew_
                      (first | rw [← Ny307.out] at ho23 | (simp only [Int.reduceToNat] at ho23; rw [← Ny307.out] at ho23))
                      have n0_ := Aside0.mk (Kd.R_elder' (by (with_reducible repeat (first | apply Kd.R_alloc | apply Kd.R_drewN | apply Kd.R_drew)); exact HO_12.out) (Kd.R_base ho23) hb)
                      have n1_ := Aside0.mk (Kd.R_lower (Kd.R_new' ho23 (Kd.R_lt (by (with_reducible repeat (first | apply Kd.R_alloc | apply Kd.R_drewN | apply Kd.R_drew)); exact HO_12.out))) (below_size (by repeat (first | (with_reducible first | exact HB.out | apply below_alloc | apply pw_below_drewN | apply below_drew1 | refine below_set ?_ GE299.out) | exact HB.out))))
                      have n2_ := Aside0.mk (blk_below (g := gb299) (o := .cells #[.int .i64 a1_0, .int .i64 a1_1] 29 (0, 0)) (by (with_reducible repeat (first | refine blk_drewN ?_ _ | refine blk_drew ?_ | refine blk_alloc ?_ _)); exact BK299.out) hb)
                      have n3_ := Aside0.mk (below_step (by repeat (first | (with_reducible first | exact HB.out | apply below_alloc | apply pw_below_drewN | apply below_drew1 | refine below_set ?_ GE299.out) | exact HB.out)) hb)
                      clear HO_12
                      clear BK299
                      clear HB
                      have HO_12 := n0_
                      have HO309 := n1_
                      have BK299 := n2_
                      have HB := n3_
                      clear n0_ n1_ n2_ n3_
                      clear hb ho23
                      obtain ⟨Ao25, co25, eo25⟩ := Kd.R_slice HO309.out
                      (first | subst eo25 | (injection eo25 with f1_ f2_ f3_; have f4_ := f1_.symm; have f5_ := f3_.symm; clear f1_ f2_ f3_; subst f4_; subst f5_))
                      refine hK.out _ _ ⟨((HB.out.cell (World.block_lt_of_cell? w _ hw305_0)).trans hw305_0), ((HB.out.cell (World.block_lt_of_cell? w _ hw306_0)).trans hw306_0)⟩ (fun hHeld => ?_)
                      clear hK K
                      refine norm_ (a' := ?_) ?_ ?_
                      rotate_left
                      · show Act.put _ (some 71) _ = _
                        simp only [Act.put, List.setIfInBounds_toArray, List.set_cons_zero, List.set_cons_succ, i64_w, i32_w]
                        rfl
                      refine one_ (i := 10) (N := some 72) #[true, true, true, true, true, true, true, true, true, true, true, false] rfl rfl (one_of HT_.out (by kernel_rfl)) (by decide) (fun K hK => ?_)
                      refine Kd.R_append_rows_step (Kd.int .i64) (w0 := w) w.heap.size (by rfl) (.tmp 62) (.tmp 71) 32 3 (.int .i64 0) 8 rfl Try.underlying32 info3 rfl (by decide) (by omega) u12 x12_2 y307 _ _ _ (fun k_ => some k_ ≠ (.slice Ao25 y307.length co25 : Value).ownBlock) (fun _ => False) rfl rfl ?aO ?aR (fun _ _ h => h) (fun _ h => h.elim) ?aF ?aB ?aS ?aL ?_
                      (case aR => repeat (first | exact (Kd.R_reads' HO309.out).2.2 | (with_reducible refine Kd.C_alloc ?_ _) | (with_reducible refine Kd.C_drewN ?_ _) | (with_reducible refine Kd.C_drew ?_)))
                      (case aB => exact (by repeat (first | (with_reducible first | exact HB.out | apply below_alloc | apply pw_below_drewN | apply below_drew1 | refine below_set ?_ GE299.out) | exact HB.out)))
                      (case aF => exact (fun k_ hk => Kd.fresh' (Kd.R_lt (by (with_reducible repeat (first | apply Kd.R_alloc | apply Kd.R_drewN | apply Kd.R_drew)); exact HO309.out)) k_ hk))
                      (case aO => exact (by (with_reducible repeat (first | apply Kd.R_alloc | apply Kd.R_drewN | apply Kd.R_drew)); exact Kd.R_mono HO_12.out (fun _ hk => hk.2)))
                      (case aS => exact (below_size (by repeat (first | (with_reducible first | exact HB.out | apply below_alloc | apply pw_below_drewN | apply below_drew1 | refine below_set ?_ GE299.out) | exact HB.out))))
                      (case aL => have := LMc20.out; omega)
                      intro v311 w24 ho hb hg hat
                      rw [← Ny310.out] at ho
                      have n0_ := Aside0.mk (blk_grown (g := gb299) (o := .cells #[.int .i64 a1_0, .int .i64 a1_1] 29 (0, 0)) (by (with_reducible repeat (first | refine blk_drewN ?_ _ | refine blk_drew ?_ | refine blk_alloc ?_ _)); exact BK299.out) hg (Kd.R_ne HO_12.out BK299.out (by decide)))
                      have n1_ := Aside0.mk (Kd.R_after (ok := (fun _ => True)) (by (with_reducible repeat (first | apply Kd.R_alloc | apply Kd.R_drewN | apply Kd.R_drew)); exact HO309.out) hg hat)
                      have n2_ := Aside0.mk (hb)
                      have n3_ := Aside0.mk (ho)
                      clear BK299
                      clear HO309
                      clear HB
                      clear HO_12
                      have BK299 := n0_
                      have HO309 := n1_
                      have HB := n2_
                      have HO312 := n3_
                      clear n0_ n1_ n2_ n3_
                      clear ho hb hg hat
                      refine hK.out _ _ ⟨((HB.out.cell (World.block_lt_of_cell? w _ hw305_0)).trans hw305_0), ((HB.out.cell (World.block_lt_of_cell? w _ hw306_0)).trans hw306_0)⟩ (fun hHeld => ?_)
                      clear hK K
                      refine norm_ (a' := ?_) ?_ ?_
                      rotate_left
                      · show Act.put _ (some 72) _ = _
                        simp only [Act.put, List.setIfInBounds_toArray, List.set_cons_zero, List.set_cons_succ, i64_w, i32_w]
                        rfl
                      refine pure_ (i := 11) (N := some 12) (v := ?_) (a' := ?_) #[true, true, true, true, true, true, true, true, true, true, true, true] rfl rfl (any_of HT_.out (by kernel_rfl)) (fun _ _ _ h => h) (Or.inl ⟨by rfl, ?_⟩) ?_ ?_
                      rotate_left
                      · intro w'
                        go_simp
                        with_reducible rfl
                      rotate_left
                      · simp only [Act.put, List.setIfInBounds_toArray, List.set_cons_zero, List.set_cons_succ, i64_w, i32_w]
                        rfl
                      refine done_ (done_of HT_.out (by kernel_rfl)) ?_
                      try go_wp2
                      go_roundg k2
                      case measure => have := HJ4.out; have := HK2.out; omega
                      case rel => exact ⟨(y310), (wrap64 (x13_2 - 1)), (by first | rfl | (simp; done) | (simp [*]; done)), H', ⟨by have := HJ4.out; have := HK2.out; omega⟩, ⟨by (with_reducible repeat (first | apply Kd.R_alloc | apply Kd.R_drewN | apply Kd.R_drew)); exact Kd.R_mono HO312.out (fun _ hk => trivial)⟩, ⟨by (with_reducible repeat (first | refine blk_drewN ?_ _ | refine blk_drew ?_ | refine blk_alloc ?_ _)); exact BK299.out⟩, ⟨by repeat (first | (with_reducible first | exact HB.out | apply below_alloc | apply pw_below_drewN | apply below_drew1 | refine below_set ?_ GE299.out) | exact HB.out)⟩⟩
                    · rw [if_neg c20] at H
                      exact absurd H (by simp)
                  · rw [if_neg c19] at H
                    exact absurd H (by simp)
                · rw [if_neg c18] at H
                  exact absurd H (by simp)
              · rw [if_neg c17] at H
                have c17b0 : decide (0 ≤ x13_2) = false := decide_eq_false c17
                clear c17
                replace H := Option.bind_eq_some_iff.mp H
                obtain ⟨⟨t313, t314⟩, A260, H⟩ := H
                replace H : (if t300 = true then (if t302 = 0 then (if t303 ≥ t301 then (if t303 ≤ (mn (wrap64 (t301 + 25)) 127) then (if t314 = 0 then (some (t313 == t303)) else (some false)) else (some false)) else (some false)) else (some false)) else (some false)) = some r := H
                have A26 := Aside0.mk A260
                clear A260
                by_cases c27 : t300 = true
                · subst c27
                  have H1 : (if t302 = 0 then (if t303 ≥ t301 then (if t303 ≤ (mn (wrap64 (t301 + 25)) 127) then (if t314 = 0 then (some (t313 == t303)) else (some false)) else (some false)) else (some false)) else (some false)) = some r := by rw [if_pos rfl] at H; exact H
                  clear H
                  have H := H1
                  clear H1
                  by_cases c28 : t302 = 0
                  · rw [if_pos c28] at H
                    have c28b0 : (t302 == 0) = true := beq_iff_eq.mpr c28
                    have c28b1 : (t302 != 0) = false := bne_eq_false_iff_eq.mpr c28
                    clear c28
                    by_cases c29 : t303 ≥ t301
                    · rw [if_pos c29] at H
                      have c29b0 : decide (t301 ≤ t303) = true := decide_eq_true c29
                      clear c29
                      obtain ⟨ji30, hji30⟩ : ∃ j_ : Int, (mn (wrap64 (t301 + 25)) 127) = j_ := ⟨_, rfl⟩
                      replace H : (if t303 ≤ (ji30) then (if t314 = 0 then (some (t313 == t303)) else (some false)) else (some false)) = some r := by first | (rw [hji30] at H; exact H) | (simp only [hji30] at H ⊢; exact H)
                      (try rw [hji30] at A26)
                      have hji30_ : (if 127 < (wrap64 (t301 + 25)) then 127 else (wrap64 (t301 + 25))) = ji30 := hji30
                      by_cases c31 : t303 ≤ (ji30)
                      · rw [if_pos c31] at H
                        have c31b0 : decide (t303 ≤ (ji30)) = true := decide_eq_true c31
                        clear c31
                        by_cases c32 : t314 = 0
                        · rw [if_pos c32] at H
                          have c32b0 : (t314 == 0) = true := beq_iff_eq.mpr c32
                          have c32b1 : (t314 != 0) = false := bne_eq_false_iff_eq.mpr c32
                          clear c32
                          obtain rfl := Option.some.inj H
                          have hcz33_0 : wr.cell? ⟨gb299, 0, none⟩ = some (.int .i64 a1_0) := (blk_cell BK299.out 0).trans rfl
                          have hcz33_1 : wr.cell? ⟨gb299, 1, none⟩ = some (.int .i64 a1_1) := (blk_cell BK299.out 1).trans rfl
                          have hfz33_0 := blk_frozen BK299.out 0
                          have hfz33_1 := blk_frozen BK299.out 1
                          obtain ⟨Ao34, co34, eo34⟩ := Kd.R_slice HO_12.out
                          subst eo34
                          go_wp2_with (first | ((with_reducible refine gate_callee (f := 17) rfl ?_); refine goesL_ (some 77) rfl rfl Try.func17 (by kernel_rfl) rfl #[.slice A0 l0.length c0, .agg #[.int .i64 a1_0, .int .i64 a1_1], .slice Ao34 x12_2.length co34] rfl (by (try simp only [List.map_toArray, List.map_cons, List.map_nil]); first | done | rfl | (simp only [List.length_drop, List.length_take]; rfl)) ?_; (with_reducible refine (dyn_Velocity.calls k2 _ _ l0 a1_0 a1_1 _ _ x12_2 t313 t314 _ ?side1 ?side2 ?side3 ?side4 A26.out).mono ?_); (case side1 => repeat (first | exact (Kd.C_below HR0.out HB.out) | (with_reducible refine Kd.C_alloc ?_ _) | (with_reducible refine Kd.C_drewN ?_ _) | (with_reducible refine Kd.C_drew ?_))); (case side2 => exact HC0.out); (case side3 => repeat (first | exact (Kd.R_reads' HO_12.out).2.2 | (with_reducible refine Kd.C_alloc ?_ _) | (with_reducible refine Kd.C_drewN ?_ _) | (with_reducible refine Kd.C_drew ?_))); (case side4 => exact (Kd.R_reads' HO_12.out).2.1); rintro e w35 ⟨rfl, hb⟩; refine ⟨_, rfl, ?_⟩; have n0_ := Aside0.mk (Kd.R_below (by (with_reducible repeat (first | apply Kd.R_alloc | apply Kd.R_drewN | apply Kd.R_drew)); exact HO_12.out) hb); have n1_ := Aside0.mk (blk_below (g := gb299) (o := .cells #[.int .i64 a1_0, .int .i64 a1_1] 29 (0, 0)) (by (with_reducible repeat (first | refine blk_drewN ?_ _ | refine blk_drew ?_ | refine blk_alloc ?_ _)); exact BK299.out) hb); have n2_ := Aside0.mk (below_step (by repeat (first | (with_reducible first | exact HB.out | apply below_alloc | apply pw_below_drewN | apply below_drew1 | refine below_set ?_ GE299.out) | exact HB.out)) hb); clear HO_12; clear BK299; clear HB; have HO_12 := n0_; have BK299 := n1_; have HB := n2_; clear n0_ n1_ n2_; (try clear hb); (try clear hb2); (try clear hk); (try clear hi)))
                          go_ret
                          exact ⟨by first | rfl | (simp [errW_none, errW_some] <;> rfl) | (simp only [← hji30]; first | rfl | (simp [errW_none, errW_some] <;> rfl)) | (simp [*, errW_none, errW_some] <;> rfl), by repeat (first | (with_reducible first | exact HB.out | apply below_alloc | apply pw_below_drewN | apply below_drew1 | refine below_set ?_ GE299.out) | exact HB.out)⟩
                        · rw [if_neg c32] at H
                          have c32b0 : (t314 == 0) = false := beq_eq_false_iff_ne.mpr c32
                          have c32b1 : (t314 != 0) = true := bne_iff_ne.mpr c32
                          obtain rfl := Option.some.inj H
                          have hcz36_0 : wr.cell? ⟨gb299, 0, none⟩ = some (.int .i64 a1_0) := (blk_cell BK299.out 0).trans rfl
                          have hcz36_1 : wr.cell? ⟨gb299, 1, none⟩ = some (.int .i64 a1_1) := (blk_cell BK299.out 1).trans rfl
                          have hfz36_0 := blk_frozen BK299.out 0
                          have hfz36_1 := blk_frozen BK299.out 1
                          obtain ⟨Ao37, co37, eo37⟩ := Kd.R_slice HO_12.out
                          subst eo37
                          go_wp2_with (first | ((with_reducible refine gate_callee (f := 17) rfl ?_); refine goesL_ (some 77) rfl rfl Try.func17 (by kernel_rfl) rfl #[.slice A0 l0.length c0, .agg #[.int .i64 a1_0, .int .i64 a1_1], .slice Ao37 x12_2.length co37] rfl (by (try simp only [List.map_toArray, List.map_cons, List.map_nil]); first | done | rfl | (simp only [List.length_drop, List.length_take]; rfl)) ?_; (with_reducible refine (dyn_Velocity.calls k2 _ _ l0 a1_0 a1_1 _ _ x12_2 t313 t314 _ ?side1 ?side2 ?side3 ?side4 A26.out).mono ?_); (case side1 => repeat (first | exact (Kd.C_below HR0.out HB.out) | (with_reducible refine Kd.C_alloc ?_ _) | (with_reducible refine Kd.C_drewN ?_ _) | (with_reducible refine Kd.C_drew ?_))); (case side2 => exact HC0.out); (case side3 => repeat (first | exact (Kd.R_reads' HO_12.out).2.2 | (with_reducible refine Kd.C_alloc ?_ _) | (with_reducible refine Kd.C_drewN ?_ _) | (with_reducible refine Kd.C_drew ?_))); (case side4 => exact (Kd.R_reads' HO_12.out).2.1); rintro e w38 ⟨rfl, hb⟩; refine ⟨_, rfl, ?_⟩; have n0_ := Aside0.mk (Kd.R_below (by (with_reducible repeat (first | apply Kd.R_alloc | apply Kd.R_drewN | apply Kd.R_drew)); exact HO_12.out) hb); have n1_ := Aside0.mk (blk_below (g := gb299) (o := .cells #[.int .i64 a1_0, .int .i64 a1_1] 29 (0, 0)) (by (with_reducible repeat (first | refine blk_drewN ?_ _ | refine blk_drew ?_ | refine blk_alloc ?_ _)); exact BK299.out) hb); have n2_ := Aside0.mk (below_step (by repeat (first | (with_reducible first | exact HB.out | apply below_alloc | apply pw_below_drewN | apply below_drew1 | refine below_set ?_ GE299.out) | exact HB.out)) hb); clear HO_12; clear BK299; clear HB; have HO_12 := n0_; have BK299 := n1_; have HB := n2_; clear n0_ n1_ n2_; (try clear hb); (try clear hb2); (try clear hk); (try clear hi)))
                          go_ret
                          exact ⟨by first | rfl | (simp [errW_none, errW_some] <;> rfl) | (simp only [← hji30]; first | rfl | (simp [errW_none, errW_some] <;> rfl)) | (simp [*, errW_none, errW_some] <;> rfl), by repeat (first | (with_reducible first | exact HB.out | apply below_alloc | apply pw_below_drewN | apply below_drew1 | refine below_set ?_ GE299.out) | exact HB.out)⟩
                      · rw [if_neg c31] at H
                        have c31b0 : decide (t303 ≤ (ji30)) = false := decide_eq_false c31
                        clear c31
                        obtain rfl := Option.some.inj H
                        have hcz39_0 : wr.cell? ⟨gb299, 0, none⟩ = some (.int .i64 a1_0) := (blk_cell BK299.out 0).trans rfl
                        have hcz39_1 : wr.cell? ⟨gb299, 1, none⟩ = some (.int .i64 a1_1) := (blk_cell BK299.out 1).trans rfl
                        have hfz39_0 := blk_frozen BK299.out 0
                        have hfz39_1 := blk_frozen BK299.out 1
                        obtain ⟨Ao40, co40, eo40⟩ := Kd.R_slice HO_12.out
                        subst eo40
                        go_wp2_with (first | ((with_reducible refine gate_callee (f := 17) rfl ?_); refine goesL_ (some 77) rfl rfl Try.func17 (by kernel_rfl) rfl #[.slice A0 l0.length c0, .agg #[.int .i64 a1_0, .int .i64 a1_1], .slice Ao40 x12_2.length co40] rfl (by (try simp only [List.map_toArray, List.map_cons, List.map_nil]); first | done | rfl | (simp only [List.length_drop, List.length_take]; rfl)) ?_; (with_reducible refine (dyn_Velocity.calls k2 _ _ l0 a1_0 a1_1 _ _ x12_2 t313 t314 _ ?side1 ?side2 ?side3 ?side4 A26.out).mono ?_); (case side1 => repeat (first | exact (Kd.C_below HR0.out HB.out) | (with_reducible refine Kd.C_alloc ?_ _) | (with_reducible refine Kd.C_drewN ?_ _) | (with_reducible refine Kd.C_drew ?_))); (case side2 => exact HC0.out); (case side3 => repeat (first | exact (Kd.R_reads' HO_12.out).2.2 | (with_reducible refine Kd.C_alloc ?_ _) | (with_reducible refine Kd.C_drewN ?_ _) | (with_reducible refine Kd.C_drew ?_))); (case side4 => exact (Kd.R_reads' HO_12.out).2.1); rintro e w41 ⟨rfl, hb⟩; refine ⟨_, rfl, ?_⟩; have n0_ := Aside0.mk (Kd.R_below (by (with_reducible repeat (first | apply Kd.R_alloc | apply Kd.R_drewN | apply Kd.R_drew)); exact HO_12.out) hb); have n1_ := Aside0.mk (blk_below (g := gb299) (o := .cells #[.int .i64 a1_0, .int .i64 a1_1] 29 (0, 0)) (by (with_reducible repeat (first | refine blk_drewN ?_ _ | refine blk_drew ?_ | refine blk_alloc ?_ _)); exact BK299.out) hb); have n2_ := Aside0.mk (below_step (by repeat (first | (with_reducible first | exact HB.out | apply below_alloc | apply pw_below_drewN | apply below_drew1 | refine below_set ?_ GE299.out) | exact HB.out)) hb); clear HO_12; clear BK299; clear HB; have HO_12 := n0_; have BK299 := n1_; have HB := n2_; clear n0_ n1_ n2_; (try clear hb); (try clear hb2); (try clear hk); (try clear hi)))
                        go_ret
                        exact ⟨by first | rfl | (simp [errW_none, errW_some] <;> rfl) | (simp only [← hji30]; first | rfl | (simp [errW_none, errW_some] <;> rfl)) | (simp [*, errW_none, errW_some] <;> rfl), by repeat (first | (with_reducible first | exact HB.out | apply below_alloc | apply pw_below_drewN | apply below_drew1 | refine below_set ?_ GE299.out) | exact HB.out)⟩
                    · rw [if_neg c29] at H
                      have c29b0 : decide (t301 ≤ t303) = false := decide_eq_false c29
                      clear c29
                      obtain rfl := Option.some.inj H
                      have hcz42_0 : wr.cell? ⟨gb299, 0, none⟩ = some (.int .i64 a1_0) := (blk_cell BK299.out 0).trans rfl
                      have hcz42_1 : wr.cell? ⟨gb299, 1, none⟩ = some (.int .i64 a1_1) := (blk_cell BK299.out 1).trans rfl
                      have hfz42_0 := blk_frozen BK299.out 0
                      have hfz42_1 := blk_frozen BK299.out 1
                      obtain ⟨Ao43, co43, eo43⟩ := Kd.R_slice HO_12.out
                      subst eo43
                      go_wp2_with (first | ((with_reducible refine gate_callee (f := 17) rfl ?_); refine goesL_ (some 77) rfl rfl Try.func17 (by kernel_rfl) rfl #[.slice A0 l0.length c0, .agg #[.int .i64 a1_0, .int .i64 a1_1], .slice Ao43 x12_2.length co43] rfl (by (try simp only [List.map_toArray, List.map_cons, List.map_nil]); first | done | rfl | (simp only [List.length_drop, List.length_take]; rfl)) ?_; (with_reducible refine (dyn_Velocity.calls k2 _ _ l0 a1_0 a1_1 _ _ x12_2 t313 t314 _ ?side1 ?side2 ?side3 ?side4 A26.out).mono ?_); (case side1 => repeat (first | exact (Kd.C_below HR0.out HB.out) | (with_reducible refine Kd.C_alloc ?_ _) | (with_reducible refine Kd.C_drewN ?_ _) | (with_reducible refine Kd.C_drew ?_))); (case side2 => exact HC0.out); (case side3 => repeat (first | exact (Kd.R_reads' HO_12.out).2.2 | (with_reducible refine Kd.C_alloc ?_ _) | (with_reducible refine Kd.C_drewN ?_ _) | (with_reducible refine Kd.C_drew ?_))); (case side4 => exact (Kd.R_reads' HO_12.out).2.1); rintro e w44 ⟨rfl, hb⟩; refine ⟨_, rfl, ?_⟩; have n0_ := Aside0.mk (Kd.R_below (by (with_reducible repeat (first | apply Kd.R_alloc | apply Kd.R_drewN | apply Kd.R_drew)); exact HO_12.out) hb); have n1_ := Aside0.mk (blk_below (g := gb299) (o := .cells #[.int .i64 a1_0, .int .i64 a1_1] 29 (0, 0)) (by (with_reducible repeat (first | refine blk_drewN ?_ _ | refine blk_drew ?_ | refine blk_alloc ?_ _)); exact BK299.out) hb); have n2_ := Aside0.mk (below_step (by repeat (first | (with_reducible first | exact HB.out | apply below_alloc | apply pw_below_drewN | apply below_drew1 | refine below_set ?_ GE299.out) | exact HB.out)) hb); clear HO_12; clear BK299; clear HB; have HO_12 := n0_; have BK299 := n1_; have HB := n2_; clear n0_ n1_ n2_; (try clear hb); (try clear hb2); (try clear hk); (try clear hi)))
                      go_ret
                      exact ⟨by first | rfl | (simp [errW_none, errW_some] <;> rfl) | (simp [*, errW_none, errW_some] <;> rfl), by repeat (first | (with_reducible first | exact HB.out | apply below_alloc | apply pw_below_drewN | apply below_drew1 | refine below_set ?_ GE299.out) | exact HB.out)⟩
                  · rw [if_neg c28] at H
                    have c28b0 : (t302 == 0) = false := beq_eq_false_iff_ne.mpr c28
                    have c28b1 : (t302 != 0) = true := bne_iff_ne.mpr c28
                    obtain rfl := Option.some.inj H
                    have hcz45_0 : wr.cell? ⟨gb299, 0, none⟩ = some (.int .i64 a1_0) := (blk_cell BK299.out 0).trans rfl
                    have hcz45_1 : wr.cell? ⟨gb299, 1, none⟩ = some (.int .i64 a1_1) := (blk_cell BK299.out 1).trans rfl
                    have hfz45_0 := blk_frozen BK299.out 0
                    have hfz45_1 := blk_frozen BK299.out 1
                    obtain ⟨Ao46, co46, eo46⟩ := Kd.R_slice HO_12.out
                    subst eo46
                    go_wp2_with (first | ((with_reducible refine gate_callee (f := 17) rfl ?_); refine goesL_ (some 77) rfl rfl Try.func17 (by kernel_rfl) rfl #[.slice A0 l0.length c0, .agg #[.int .i64 a1_0, .int .i64 a1_1], .slice Ao46 x12_2.length co46] rfl (by (try simp only [List.map_toArray, List.map_cons, List.map_nil]); first | done | rfl | (simp only [List.length_drop, List.length_take]; rfl)) ?_; (with_reducible refine (dyn_Velocity.calls k2 _ _ l0 a1_0 a1_1 _ _ x12_2 t313 t314 _ ?side1 ?side2 ?side3 ?side4 A26.out).mono ?_); (case side1 => repeat (first | exact (Kd.C_below HR0.out HB.out) | (with_reducible refine Kd.C_alloc ?_ _) | (with_reducible refine Kd.C_drewN ?_ _) | (with_reducible refine Kd.C_drew ?_))); (case side2 => exact HC0.out); (case side3 => repeat (first | exact (Kd.R_reads' HO_12.out).2.2 | (with_reducible refine Kd.C_alloc ?_ _) | (with_reducible refine Kd.C_drewN ?_ _) | (with_reducible refine Kd.C_drew ?_))); (case side4 => exact (Kd.R_reads' HO_12.out).2.1); rintro e w47 ⟨rfl, hb⟩; refine ⟨_, rfl, ?_⟩; have n0_ := Aside0.mk (Kd.R_below (by (with_reducible repeat (first | apply Kd.R_alloc | apply Kd.R_drewN | apply Kd.R_drew)); exact HO_12.out) hb); have n1_ := Aside0.mk (blk_below (g := gb299) (o := .cells #[.int .i64 a1_0, .int .i64 a1_1] 29 (0, 0)) (by (with_reducible repeat (first | refine blk_drewN ?_ _ | refine blk_drew ?_ | refine blk_alloc ?_ _)); exact BK299.out) hb); have n2_ := Aside0.mk (below_step (by repeat (first | (with_reducible first | exact HB.out | apply below_alloc | apply pw_below_drewN | apply below_drew1 | refine below_set ?_ GE299.out) | exact HB.out)) hb); clear HO_12; clear BK299; clear HB; have HO_12 := n0_; have BK299 := n1_; have HB := n2_; clear n0_ n1_ n2_; (try clear hb); (try clear hb2); (try clear hk); (try clear hi)))
                    go_ret
                    exact ⟨by first | rfl | (simp [errW_none, errW_some] <;> rfl) | (simp [*, errW_none, errW_some] <;> rfl), by repeat (first | (with_reducible first | exact HB.out | apply below_alloc | apply pw_below_drewN | apply below_drew1 | refine below_set ?_ GE299.out) | exact HB.out)⟩
                · replace c27 := Bool.eq_false_iff.mpr c27
                  subst c27
                  have H1 : (some false) = some r := by rw [if_neg (show ¬ (false = true) by decide)] at H; exact H
                  clear H
                  have H := H1
                  clear H1
                  obtain rfl := Option.some.inj H
                  have hcz48_0 : wr.cell? ⟨gb299, 0, none⟩ = some (.int .i64 a1_0) := (blk_cell BK299.out 0).trans rfl
                  have hcz48_1 : wr.cell? ⟨gb299, 1, none⟩ = some (.int .i64 a1_1) := (blk_cell BK299.out 1).trans rfl
                  have hfz48_0 := blk_frozen BK299.out 0
                  have hfz48_1 := blk_frozen BK299.out 1
                  obtain ⟨Ao49, co49, eo49⟩ := Kd.R_slice HO_12.out
                  subst eo49
                  go_wp2_with (first | ((with_reducible refine gate_callee (f := 17) rfl ?_); refine goesL_ (some 77) rfl rfl Try.func17 (by kernel_rfl) rfl #[.slice A0 l0.length c0, .agg #[.int .i64 a1_0, .int .i64 a1_1], .slice Ao49 x12_2.length co49] rfl (by (try simp only [List.map_toArray, List.map_cons, List.map_nil]); first | done | rfl | (simp only [List.length_drop, List.length_take]; rfl)) ?_; (with_reducible refine (dyn_Velocity.calls k2 _ _ l0 a1_0 a1_1 _ _ x12_2 t313 t314 _ ?side1 ?side2 ?side3 ?side4 A26.out).mono ?_); (case side1 => repeat (first | exact (Kd.C_below HR0.out HB.out) | (with_reducible refine Kd.C_alloc ?_ _) | (with_reducible refine Kd.C_drewN ?_ _) | (with_reducible refine Kd.C_drew ?_))); (case side2 => exact HC0.out); (case side3 => repeat (first | exact (Kd.R_reads' HO_12.out).2.2 | (with_reducible refine Kd.C_alloc ?_ _) | (with_reducible refine Kd.C_drewN ?_ _) | (with_reducible refine Kd.C_drew ?_))); (case side4 => exact (Kd.R_reads' HO_12.out).2.1); rintro e w50 ⟨rfl, hb⟩; refine ⟨_, rfl, ?_⟩; have n0_ := Aside0.mk (Kd.R_below (by (with_reducible repeat (first | apply Kd.R_alloc | apply Kd.R_drewN | apply Kd.R_drew)); exact HO_12.out) hb); have n1_ := Aside0.mk (blk_below (g := gb299) (o := .cells #[.int .i64 a1_0, .int .i64 a1_1] 29 (0, 0)) (by (with_reducible repeat (first | refine blk_drewN ?_ _ | refine blk_drew ?_ | refine blk_alloc ?_ _)); exact BK299.out) hb); have n2_ := Aside0.mk (below_step (by repeat (first | (with_reducible first | exact HB.out | apply below_alloc | apply pw_below_drewN | apply below_drew1 | refine below_set ?_ GE299.out) | exact HB.out)) hb); clear HO_12; clear BK299; clear HB; have HO_12 := n0_; have BK299 := n1_; have HB := n2_; clear n0_ n1_ n2_; (try clear hb); (try clear hb2); (try clear hk); (try clear hi)))
                  go_ret
                  exact ⟨by first | rfl | (simp [errW_none, errW_some] <;> rfl) | (simp [*, errW_none, errW_some] <;> rfl), by repeat (first | (with_reducible first | exact HB.out | apply below_alloc | apply pw_below_drewN | apply below_drew1 | refine below_set ?_ GE299.out) | exact HB.out)⟩
        · rw [if_neg c12] at H
          have c12b0 : (t304 == 0) = false := beq_eq_false_iff_ne.mpr c12
          have c12b1 : (t304 != 0) = true := bne_iff_ne.mpr c12
          by_cases c51 : t300 = true
          · subst c51
            have H1 : (if t303 = 0 then (if t302 = 0 then (some true) else (some (t304 == t302))) else (some false)) = some r := by rw [if_pos rfl] at H; exact H
            clear H
            have H := H1
            clear H1
            by_cases c52 : t303 = 0
            · rw [if_pos c52] at H
              have c52b0 : (t303 == 0) = true := beq_iff_eq.mpr c52
              have c52b1 : (t303 != 0) = false := bne_eq_false_iff_eq.mpr c52
              clear c52
              by_cases c53 : t302 = 0
              · rw [if_pos c53] at H
                have c53b0 : (t302 == 0) = true := beq_iff_eq.mpr c53
                have c53b1 : (t302 != 0) = false := bne_eq_false_iff_eq.mpr c53
                clear c53
                obtain rfl := Option.some.inj H
                have hcz54_0 : wc.cell? ⟨gb299, 0, none⟩ = some (.int .i64 a1_0) := (blk_cell BK299.out 0).trans rfl
                have hcz54_1 : wc.cell? ⟨gb299, 1, none⟩ = some (.int .i64 a1_1) := (blk_cell BK299.out 1).trans rfl
                have hfz54_0 := blk_frozen BK299.out 0
                have hfz54_1 := blk_frozen BK299.out 1
                go_wp2_with (first | ((with_reducible refine gate_callee (f := 15) rfl ?_); refine goesL_ (some 29) rfl rfl Try.func15 (by kernel_rfl) rfl #[.slice A0 l0.length c0, .agg #[.int .i64 a1_0, .int .i64 a1_1]] rfl (by (try simp only [List.map_toArray, List.map_cons, List.map_nil]); first | done | rfl | (simp only [List.length_drop, List.length_take]; rfl)) ?_; (with_reducible refine (dyn_Level.calls kj4 _ _ l0 a1_0 a1_1 t301 t302 _ ?side1 ?side2 A10.out).mono ?_); (case side1 => repeat (first | exact (Kd.C_below HR0.out HB.out) | (with_reducible refine Kd.C_alloc ?_ _) | (with_reducible refine Kd.C_drewN ?_ _) | (with_reducible refine Kd.C_drew ?_))); (case side2 => exact HC0.out); rintro e w55 ⟨rfl, hb⟩; refine ⟨_, rfl, ?_⟩; have n0_ := Aside0.mk (blk_below (g := gb299) (o := .cells #[.int .i64 a1_0, .int .i64 a1_1] 29 (0, 0)) (by (with_reducible repeat (first | refine blk_drewN ?_ _ | refine blk_drew ?_ | refine blk_alloc ?_ _)); exact BK299.out) hb); have n1_ := Aside0.mk (below_step (by repeat (first | (with_reducible first | exact HB.out | apply below_alloc | apply pw_below_drewN | apply below_drew1 | refine below_set ?_ GE299.out) | exact HB.out)) hb); clear BK299; clear HB; have BK299 := n0_; have HB := n1_; clear n0_ n1_; (try clear hb); (try clear hb2); (try clear hk); (try clear hi); have hcz56_0 : w55.cell? ⟨gb299, 0, none⟩ = some (.int .i64 a1_0) := (blk_cell BK299.out 0).trans rfl; have hcz56_1 : w55.cell? ⟨gb299, 1, none⟩ = some (.int .i64 a1_1) := (blk_cell BK299.out 1).trans rfl; have hfz56_0 := blk_frozen BK299.out 0; have hfz56_1 := blk_frozen BK299.out 1) | ((with_reducible refine gate_callee (f := 17) rfl ?_); refine goesL_ (some 36) rfl rfl Try.func17 (by kernel_rfl) rfl #[.slice A0 l0.length c0, .agg #[.int .i64 a1_0, .int .i64 a1_1], .slice A2 l2.length c2] rfl (by (try simp only [List.map_toArray, List.map_cons, List.map_nil]); first | done | rfl | (simp only [List.length_drop, List.length_take]; rfl)) ?_; (with_reducible refine (dyn_Velocity.calls kj4 _ _ l0 a1_0 a1_1 _ _ l2 t303 t304 _ ?side1 ?side2 ?side3 ?side4 A11.out).mono ?_); (case side1 => repeat (first | exact (Kd.C_below HR0.out HB.out) | (with_reducible refine Kd.C_alloc ?_ _) | (with_reducible refine Kd.C_drewN ?_ _) | (with_reducible refine Kd.C_drew ?_))); (case side2 => exact HC0.out); (case side3 => repeat (first | exact (Kd.C_below HR2.out HB.out) | (with_reducible refine Kd.C_alloc ?_ _) | (with_reducible refine Kd.C_drewN ?_ _) | (with_reducible refine Kd.C_drew ?_))); (case side4 => exact HC2.out); rintro e w57 ⟨rfl, hb⟩; refine ⟨_, rfl, ?_⟩; have n0_ := Aside0.mk (blk_below (g := gb299) (o := .cells #[.int .i64 a1_0, .int .i64 a1_1] 29 (0, 0)) (by (with_reducible repeat (first | refine blk_drewN ?_ _ | refine blk_drew ?_ | refine blk_alloc ?_ _)); exact BK299.out) hb); have n1_ := Aside0.mk (below_step (by repeat (first | (with_reducible first | exact HB.out | apply below_alloc | apply pw_below_drewN | apply below_drew1 | refine below_set ?_ GE299.out) | exact HB.out)) hb); clear BK299; clear HB; have BK299 := n0_; have HB := n1_; clear n0_ n1_; (try clear hb); (try clear hb2); (try clear hk); (try clear hi)))
                go_ret
                exact ⟨by first | rfl | (simp [errW_none, errW_some] <;> rfl) | (simp [*, errW_none, errW_some] <;> rfl), by repeat (first | (with_reducible first | exact HB.out | apply below_alloc | apply pw_below_drewN | apply below_drew1 | refine below_set ?_ GE299.out) | exact HB.out)⟩
              · rw [if_neg c53] at H
                have c53b0 : (t302 == 0) = false := beq_eq_false_iff_ne.mpr c53
                have c53b1 : (t302 != 0) = true := bne_iff_ne.mpr c53
                obtain rfl := Option.some.inj H
                have hcz58_0 : wc.cell? ⟨gb299, 0, none⟩ = some (.int .i64 a1_0) := (blk_cell BK299.out 0).trans rfl
                have hcz58_1 : wc.cell? ⟨gb299, 1, none⟩ = some (.int .i64 a1_1) := (blk_cell BK299.out 1).trans rfl
                have hfz58_0 := blk_frozen BK299.out 0
                have hfz58_1 := blk_frozen BK299.out 1
                go_wp2_with (first | ((with_reducible refine gate_callee (f := 15) rfl ?_); refine goesL_ (some 29) rfl rfl Try.func15 (by kernel_rfl) rfl #[.slice A0 l0.length c0, .agg #[.int .i64 a1_0, .int .i64 a1_1]] rfl (by (try simp only [List.map_toArray, List.map_cons, List.map_nil]); first | done | rfl | (simp only [List.length_drop, List.length_take]; rfl)) ?_; (with_reducible refine (dyn_Level.calls kj4 _ _ l0 a1_0 a1_1 t301 t302 _ ?side1 ?side2 A10.out).mono ?_); (case side1 => repeat (first | exact (Kd.C_below HR0.out HB.out) | (with_reducible refine Kd.C_alloc ?_ _) | (with_reducible refine Kd.C_drewN ?_ _) | (with_reducible refine Kd.C_drew ?_))); (case side2 => exact HC0.out); rintro e w59 ⟨rfl, hb⟩; refine ⟨_, rfl, ?_⟩; have n0_ := Aside0.mk (blk_below (g := gb299) (o := .cells #[.int .i64 a1_0, .int .i64 a1_1] 29 (0, 0)) (by (with_reducible repeat (first | refine blk_drewN ?_ _ | refine blk_drew ?_ | refine blk_alloc ?_ _)); exact BK299.out) hb); have n1_ := Aside0.mk (below_step (by repeat (first | (with_reducible first | exact HB.out | apply below_alloc | apply pw_below_drewN | apply below_drew1 | refine below_set ?_ GE299.out) | exact HB.out)) hb); clear BK299; clear HB; have BK299 := n0_; have HB := n1_; clear n0_ n1_; (try clear hb); (try clear hb2); (try clear hk); (try clear hi); have hcz60_0 : w59.cell? ⟨gb299, 0, none⟩ = some (.int .i64 a1_0) := (blk_cell BK299.out 0).trans rfl; have hcz60_1 : w59.cell? ⟨gb299, 1, none⟩ = some (.int .i64 a1_1) := (blk_cell BK299.out 1).trans rfl; have hfz60_0 := blk_frozen BK299.out 0; have hfz60_1 := blk_frozen BK299.out 1) | ((with_reducible refine gate_callee (f := 17) rfl ?_); refine goesL_ (some 36) rfl rfl Try.func17 (by kernel_rfl) rfl #[.slice A0 l0.length c0, .agg #[.int .i64 a1_0, .int .i64 a1_1], .slice A2 l2.length c2] rfl (by (try simp only [List.map_toArray, List.map_cons, List.map_nil]); first | done | rfl | (simp only [List.length_drop, List.length_take]; rfl)) ?_; (with_reducible refine (dyn_Velocity.calls kj4 _ _ l0 a1_0 a1_1 _ _ l2 t303 t304 _ ?side1 ?side2 ?side3 ?side4 A11.out).mono ?_); (case side1 => repeat (first | exact (Kd.C_below HR0.out HB.out) | (with_reducible refine Kd.C_alloc ?_ _) | (with_reducible refine Kd.C_drewN ?_ _) | (with_reducible refine Kd.C_drew ?_))); (case side2 => exact HC0.out); (case side3 => repeat (first | exact (Kd.C_below HR2.out HB.out) | (with_reducible refine Kd.C_alloc ?_ _) | (with_reducible refine Kd.C_drewN ?_ _) | (with_reducible refine Kd.C_drew ?_))); (case side4 => exact HC2.out); rintro e w61 ⟨rfl, hb⟩; refine ⟨_, rfl, ?_⟩; have n0_ := Aside0.mk (blk_below (g := gb299) (o := .cells #[.int .i64 a1_0, .int .i64 a1_1] 29 (0, 0)) (by (with_reducible repeat (first | refine blk_drewN ?_ _ | refine blk_drew ?_ | refine blk_alloc ?_ _)); exact BK299.out) hb); have n1_ := Aside0.mk (below_step (by repeat (first | (with_reducible first | exact HB.out | apply below_alloc | apply pw_below_drewN | apply below_drew1 | refine below_set ?_ GE299.out) | exact HB.out)) hb); clear BK299; clear HB; have BK299 := n0_; have HB := n1_; clear n0_ n1_; (try clear hb); (try clear hb2); (try clear hk); (try clear hi)))
                go_ret
                exact ⟨by first | rfl | (simp [errW_none, errW_some] <;> rfl) | (simp [*, errW_none, errW_some] <;> rfl), by repeat (first | (with_reducible first | exact HB.out | apply below_alloc | apply pw_below_drewN | apply below_drew1 | refine below_set ?_ GE299.out) | exact HB.out)⟩
            · rw [if_neg c52] at H
              have c52b0 : (t303 == 0) = false := beq_eq_false_iff_ne.mpr c52
              have c52b1 : (t303 != 0) = true := bne_iff_ne.mpr c52
              obtain rfl := Option.some.inj H
              have hcz62_0 : wc.cell? ⟨gb299, 0, none⟩ = some (.int .i64 a1_0) := (blk_cell BK299.out 0).trans rfl
              have hcz62_1 : wc.cell? ⟨gb299, 1, none⟩ = some (.int .i64 a1_1) := (blk_cell BK299.out 1).trans rfl
              have hfz62_0 := blk_frozen BK299.out 0
              have hfz62_1 := blk_frozen BK299.out 1
              go_wp2_with (first | ((with_reducible refine gate_callee (f := 15) rfl ?_); refine goesL_ (some 29) rfl rfl Try.func15 (by kernel_rfl) rfl #[.slice A0 l0.length c0, .agg #[.int .i64 a1_0, .int .i64 a1_1]] rfl (by (try simp only [List.map_toArray, List.map_cons, List.map_nil]); first | done | rfl | (simp only [List.length_drop, List.length_take]; rfl)) ?_; (with_reducible refine (dyn_Level.calls kj4 _ _ l0 a1_0 a1_1 t301 t302 _ ?side1 ?side2 A10.out).mono ?_); (case side1 => repeat (first | exact (Kd.C_below HR0.out HB.out) | (with_reducible refine Kd.C_alloc ?_ _) | (with_reducible refine Kd.C_drewN ?_ _) | (with_reducible refine Kd.C_drew ?_))); (case side2 => exact HC0.out); rintro e w63 ⟨rfl, hb⟩; refine ⟨_, rfl, ?_⟩; have n0_ := Aside0.mk (blk_below (g := gb299) (o := .cells #[.int .i64 a1_0, .int .i64 a1_1] 29 (0, 0)) (by (with_reducible repeat (first | refine blk_drewN ?_ _ | refine blk_drew ?_ | refine blk_alloc ?_ _)); exact BK299.out) hb); have n1_ := Aside0.mk (below_step (by repeat (first | (with_reducible first | exact HB.out | apply below_alloc | apply pw_below_drewN | apply below_drew1 | refine below_set ?_ GE299.out) | exact HB.out)) hb); clear BK299; clear HB; have BK299 := n0_; have HB := n1_; clear n0_ n1_; (try clear hb); (try clear hb2); (try clear hk); (try clear hi); have hcz64_0 : w63.cell? ⟨gb299, 0, none⟩ = some (.int .i64 a1_0) := (blk_cell BK299.out 0).trans rfl; have hcz64_1 : w63.cell? ⟨gb299, 1, none⟩ = some (.int .i64 a1_1) := (blk_cell BK299.out 1).trans rfl; have hfz64_0 := blk_frozen BK299.out 0; have hfz64_1 := blk_frozen BK299.out 1) | ((with_reducible refine gate_callee (f := 17) rfl ?_); refine goesL_ (some 36) rfl rfl Try.func17 (by kernel_rfl) rfl #[.slice A0 l0.length c0, .agg #[.int .i64 a1_0, .int .i64 a1_1], .slice A2 l2.length c2] rfl (by (try simp only [List.map_toArray, List.map_cons, List.map_nil]); first | done | rfl | (simp only [List.length_drop, List.length_take]; rfl)) ?_; (with_reducible refine (dyn_Velocity.calls kj4 _ _ l0 a1_0 a1_1 _ _ l2 t303 t304 _ ?side1 ?side2 ?side3 ?side4 A11.out).mono ?_); (case side1 => repeat (first | exact (Kd.C_below HR0.out HB.out) | (with_reducible refine Kd.C_alloc ?_ _) | (with_reducible refine Kd.C_drewN ?_ _) | (with_reducible refine Kd.C_drew ?_))); (case side2 => exact HC0.out); (case side3 => repeat (first | exact (Kd.C_below HR2.out HB.out) | (with_reducible refine Kd.C_alloc ?_ _) | (with_reducible refine Kd.C_drewN ?_ _) | (with_reducible refine Kd.C_drew ?_))); (case side4 => exact HC2.out); rintro e w65 ⟨rfl, hb⟩; refine ⟨_, rfl, ?_⟩; have n0_ := Aside0.mk (blk_below (g := gb299) (o := .cells #[.int .i64 a1_0, .int .i64 a1_1] 29 (0, 0)) (by (with_reducible repeat (first | refine blk_drewN ?_ _ | refine blk_drew ?_ | refine blk_alloc ?_ _)); exact BK299.out) hb); have n1_ := Aside0.mk (below_step (by repeat (first | (with_reducible first | exact HB.out | apply below_alloc | apply pw_below_drewN | apply below_drew1 | refine below_set ?_ GE299.out) | exact HB.out)) hb); clear BK299; clear HB; have BK299 := n0_; have HB := n1_; clear n0_ n1_; (try clear hb); (try clear hb2); (try clear hk); (try clear hi)))
              go_ret
              exact ⟨by first | rfl | (simp [errW_none, errW_some] <;> rfl) | (simp [*, errW_none, errW_some] <;> rfl), by repeat (first | (with_reducible first | exact HB.out | apply below_alloc | apply pw_below_drewN | apply below_drew1 | refine below_set ?_ GE299.out) | exact HB.out)⟩
          · replace c51 := Bool.eq_false_iff.mpr c51
            subst c51
            have H1 : (some false) = some r := by rw [if_neg (show ¬ (false = true) by decide)] at H; exact H
            clear H
            have H := H1
            clear H1
            obtain rfl := Option.some.inj H
            have hcz66_0 : wc.cell? ⟨gb299, 0, none⟩ = some (.int .i64 a1_0) := (blk_cell BK299.out 0).trans rfl
            have hcz66_1 : wc.cell? ⟨gb299, 1, none⟩ = some (.int .i64 a1_1) := (blk_cell BK299.out 1).trans rfl
            have hfz66_0 := blk_frozen BK299.out 0
            have hfz66_1 := blk_frozen BK299.out 1
            go_wp2_with (first | ((with_reducible refine gate_callee (f := 15) rfl ?_); refine goesL_ (some 29) rfl rfl Try.func15 (by kernel_rfl) rfl #[.slice A0 l0.length c0, .agg #[.int .i64 a1_0, .int .i64 a1_1]] rfl (by (try simp only [List.map_toArray, List.map_cons, List.map_nil]); first | done | rfl | (simp only [List.length_drop, List.length_take]; rfl)) ?_; (with_reducible refine (dyn_Level.calls kj4 _ _ l0 a1_0 a1_1 t301 t302 _ ?side1 ?side2 A10.out).mono ?_); (case side1 => repeat (first | exact (Kd.C_below HR0.out HB.out) | (with_reducible refine Kd.C_alloc ?_ _) | (with_reducible refine Kd.C_drewN ?_ _) | (with_reducible refine Kd.C_drew ?_))); (case side2 => exact HC0.out); rintro e w67 ⟨rfl, hb⟩; refine ⟨_, rfl, ?_⟩; have n0_ := Aside0.mk (blk_below (g := gb299) (o := .cells #[.int .i64 a1_0, .int .i64 a1_1] 29 (0, 0)) (by (with_reducible repeat (first | refine blk_drewN ?_ _ | refine blk_drew ?_ | refine blk_alloc ?_ _)); exact BK299.out) hb); have n1_ := Aside0.mk (below_step (by repeat (first | (with_reducible first | exact HB.out | apply below_alloc | apply pw_below_drewN | apply below_drew1 | refine below_set ?_ GE299.out) | exact HB.out)) hb); clear BK299; clear HB; have BK299 := n0_; have HB := n1_; clear n0_ n1_; (try clear hb); (try clear hb2); (try clear hk); (try clear hi); have hcz68_0 : w67.cell? ⟨gb299, 0, none⟩ = some (.int .i64 a1_0) := (blk_cell BK299.out 0).trans rfl; have hcz68_1 : w67.cell? ⟨gb299, 1, none⟩ = some (.int .i64 a1_1) := (blk_cell BK299.out 1).trans rfl; have hfz68_0 := blk_frozen BK299.out 0; have hfz68_1 := blk_frozen BK299.out 1) | ((with_reducible refine gate_callee (f := 17) rfl ?_); refine goesL_ (some 36) rfl rfl Try.func17 (by kernel_rfl) rfl #[.slice A0 l0.length c0, .agg #[.int .i64 a1_0, .int .i64 a1_1], .slice A2 l2.length c2] rfl (by (try simp only [List.map_toArray, List.map_cons, List.map_nil]); first | done | rfl | (simp only [List.length_drop, List.length_take]; rfl)) ?_; (with_reducible refine (dyn_Velocity.calls kj4 _ _ l0 a1_0 a1_1 _ _ l2 t303 t304 _ ?side1 ?side2 ?side3 ?side4 A11.out).mono ?_); (case side1 => repeat (first | exact (Kd.C_below HR0.out HB.out) | (with_reducible refine Kd.C_alloc ?_ _) | (with_reducible refine Kd.C_drewN ?_ _) | (with_reducible refine Kd.C_drew ?_))); (case side2 => exact HC0.out); (case side3 => repeat (first | exact (Kd.C_below HR2.out HB.out) | (with_reducible refine Kd.C_alloc ?_ _) | (with_reducible refine Kd.C_drewN ?_ _) | (with_reducible refine Kd.C_drew ?_))); (case side4 => exact HC2.out); rintro e w69 ⟨rfl, hb⟩; refine ⟨_, rfl, ?_⟩; have n0_ := Aside0.mk (blk_below (g := gb299) (o := .cells #[.int .i64 a1_0, .int .i64 a1_1] 29 (0, 0)) (by (with_reducible repeat (first | refine blk_drewN ?_ _ | refine blk_drew ?_ | refine blk_alloc ?_ _)); exact BK299.out) hb); have n1_ := Aside0.mk (below_step (by repeat (first | (with_reducible first | exact HB.out | apply below_alloc | apply pw_below_drewN | apply below_drew1 | refine below_set ?_ GE299.out) | exact HB.out)) hb); clear BK299; clear HB; have BK299 := n0_; have HB := n1_; clear n0_ n1_; (try clear hb); (try clear hb2); (try clear hk); (try clear hi)))
            go_ret
            exact ⟨by first | rfl | (simp [errW_none, errW_some] <;> rfl) | (simp [*, errW_none, errW_some] <;> rfl), by repeat (first | (with_reducible first | exact HB.out | apply below_alloc | apply pw_below_drewN | apply below_drew1 | refine below_set ?_ GE299.out) | exact HB.out)⟩

/-! ### ratio_Of: function 48 -/
def ratio_Of.f (a0 : Int) (a1 : Int) : Option (Int × Int × Int) := if a1 = 0 then (some (0, 0, 11)) else ((ratio_abs.f a0).bind fun t316 => ((ratio_abs.f a1).bind fun t317 => ((ratio_common.f t316 t317).bind fun t318 => (if t318 = 0 then (none) else (if (mx (IntKind.u64.wrap (Int.tdiv t316 t318)) (IntKind.u64.wrap (Int.tdiv t317 t318))) > 1000000000 then (some (0, 0, 10)) else (if ((decide (a0 < 0)) != (decide (a1 < 0))) = true then (some (wrap64 (-(wrap64 (IntKind.u64.wrap (Int.tdiv t316 t318)))), wrap64 (IntKind.u64.wrap (Int.tdiv t317 t318)), 0)) else (some (wrap64 (IntKind.u64.wrap (Int.tdiv t316 t318)), wrap64 (IntKind.u64.wrap (Int.tdiv t317 t318)), 0))))))))
set_option maxHeartbeats 8000000 in
set_option maxRecDepth 100000 in
theorem ratio_Of.calls (a0 : Int) (a1 : Int) (r1 : Int) (r2 : Int) (r3 : Int) (w : World) (h : ratio_Of.f a0 a1 = some (r1, r2, r3)) :
    Calls Try.prog 48 #[.int .i64 a0, .int .i64 a1] w fun e w' => e = .returned (.tuple #[.agg #[.int .i64 r1, .int .i64 r2], .int .i64 r3]) ∧ Below w.heap.size w w' := by
  have hu29 := Try.underlying29
  have HB := Aside0.mk (Below.refl w.heap.size w)
  have H : (if a1 = 0 then (some (0, 0, 11)) else ((ratio_abs.f a0).bind fun t316 => ((ratio_abs.f a1).bind fun t317 => ((ratio_common.f t316 t317).bind fun t318 => (if t318 = 0 then (none) else (if (mx (IntKind.u64.wrap (Int.tdiv t316 t318)) (IntKind.u64.wrap (Int.tdiv t317 t318))) > 1000000000 then (some (0, 0, 10)) else (if ((decide (a0 < 0)) != (decide (a1 < 0))) = true then (some (wrap64 (-(wrap64 (IntKind.u64.wrap (Int.tdiv t316 t318)))), wrap64 (IntKind.u64.wrap (Int.tdiv t317 t318)), 0)) else (some (wrap64 (IntKind.u64.wrap (Int.tdiv t316 t318)), wrap64 (IntKind.u64.wrap (Int.tdiv t317 t318)), 0))))))))) = some (r1, r2, r3) := h
  clear h
  by_cases c3 : a1 = 0
  · rw [if_pos c3] at H
    have c3b0 : (a1 == 0) = true := beq_iff_eq.mpr c3
    have c3b1 : (a1 != 0) = false := bne_eq_false_iff_eq.mpr c3
    clear c3
    simp only [Option.some.injEq, Prod.mk.injEq] at H
    obtain ⟨rfl, rfl, rfl⟩ := H
    go_enter Try.func48, Try.ntmps48
    go_wp2_with (first | ((with_reducible refine gate_dst (N := 4) rfl ?_); refine box_event ?hg (N := 4) ?hd (cs := #[.int .i64 0, .int .i64 0]) (t := 29) ?hr ?_; (case hd => rfl); (case hg => rfl); (case hr => first | (go_simp; done) | (go_simp; rfl)); intro gb315 hg w4 hbox hb; have n0_ := Aside0.mk (below_step (by repeat (first | (with_reducible first | exact HB.out | apply below_alloc | apply pw_below_drewN | apply below_drew1) | exact HB.out)) hb); have n1_ := Aside0.mk (hbox); have n2_ := Aside0.mk ((by rw [hg]; exact (below_size (by repeat (first | (with_reducible first | exact HB.out | apply below_alloc | apply pw_below_drewN | apply below_drew1) | exact HB.out))) : w.heap.size ≤ gb315)); have n3_ := Aside0.mk ((by rw [hg]; exact (below_size (by repeat (first | (with_reducible first | exact HB.out | apply below_alloc | apply pw_below_drewN | apply below_drew1) | exact HB.out))) : w.heap.size ≤ gb315)); clear HB; have HB := n0_; have BK315 := n1_; have GW315 := n2_; have GE315 := n3_; clear n0_ n1_ n2_ n3_; clear hb hbox hg; have hcz5_0 : w4.cell? ⟨gb315, 0, none⟩ = some (.int .i64 0) := (blk_cell BK315.out 0).trans rfl; have hcz5_1 : w4.cell? ⟨gb315, 1, none⟩ = some (.int .i64 0) := (blk_cell BK315.out 1).trans rfl; have hfz5_0 := blk_frozen BK315.out 0; have hfz5_1 := blk_frozen BK315.out 1))
    repeat (go_quiet (first | ((with_reducible refine gate_dst (N := 4) rfl ?_); refine box_event ?hg (N := 4) ?hd (cs := #[.int .i64 0, .int .i64 0]) (t := 29) ?hr ?_; (case hd => rfl); (case hg => rfl); (case hr => first | (go_simp; done) | (go_simp; rfl)); intro gb315 hg w4 hbox hb; have n0_ := Aside0.mk (below_step (by repeat (first | (with_reducible first | exact HB.out | apply below_alloc | apply pw_below_drewN | apply below_drew1) | exact HB.out)) hb); have n1_ := Aside0.mk (hbox); have n2_ := Aside0.mk ((by rw [hg]; exact (below_size (by repeat (first | (with_reducible first | exact HB.out | apply below_alloc | apply pw_below_drewN | apply below_drew1) | exact HB.out))) : w.heap.size ≤ gb315)); have n3_ := Aside0.mk ((by rw [hg]; exact (below_size (by repeat (first | (with_reducible first | exact HB.out | apply below_alloc | apply pw_below_drewN | apply below_drew1) | exact HB.out))) : w.heap.size ≤ gb315)); clear HB; have HB := n0_; have BK315 := n1_; have GW315 := n2_; have GE315 := n3_; clear n0_ n1_ n2_ n3_; clear hb hbox hg; have hcz5_0 : w4.cell? ⟨gb315, 0, none⟩ = some (.int .i64 0) := (blk_cell BK315.out 0).trans rfl; have hcz5_1 : w4.cell? ⟨gb315, 1, none⟩ = some (.int .i64 0) := (blk_cell BK315.out 1).trans rfl; have hfz5_0 := blk_frozen BK315.out 0; have hfz5_1 := blk_frozen BK315.out 1)); try go_wp2_with (first | ((with_reducible refine gate_dst (N := 4) rfl ?_); refine box_event ?hg (N := 4) ?hd (cs := #[.int .i64 0, .int .i64 0]) (t := 29) ?hr ?_; (case hd => rfl); (case hg => rfl); (case hr => first | (go_simp; done) | (go_simp; rfl)); intro gb315 hg w4 hbox hb; have n0_ := Aside0.mk (below_step (by repeat (first | (with_reducible first | exact HB.out | apply below_alloc | apply pw_below_drewN | apply below_drew1) | exact HB.out)) hb); have n1_ := Aside0.mk (hbox); have n2_ := Aside0.mk ((by rw [hg]; exact (below_size (by repeat (first | (with_reducible first | exact HB.out | apply below_alloc | apply pw_below_drewN | apply below_drew1) | exact HB.out))) : w.heap.size ≤ gb315)); have n3_ := Aside0.mk ((by rw [hg]; exact (below_size (by repeat (first | (with_reducible first | exact HB.out | apply below_alloc | apply pw_below_drewN | apply below_drew1) | exact HB.out))) : w.heap.size ≤ gb315)); clear HB; have HB := n0_; have BK315 := n1_; have GW315 := n2_; have GE315 := n3_; clear n0_ n1_ n2_ n3_; clear hb hbox hg; have hcz5_0 : w4.cell? ⟨gb315, 0, none⟩ = some (.int .i64 0) := (blk_cell BK315.out 0).trans rfl; have hcz5_1 : w4.cell? ⟨gb315, 1, none⟩ = some (.int .i64 0) := (blk_cell BK315.out 1).trans rfl; have hfz5_0 := blk_frozen BK315.out 0; have hfz5_1 := blk_frozen BK315.out 1)))
    refine bodyPost_ret (results_ct rfl _ _ gb315 29 #[.int .i64 0, .int .i64 0] (0, 0) _ rfl (by (with_reducible repeat (first | refine blk_drewN ?_ _ | refine blk_drew ?_ | refine blk_alloc ?_ _)); refine blk_put (cs := #[.int .i64 0, .int .i64 0]) ?_ 1 _ rfl; (with_reducible repeat (first | refine blk_drewN ?_ _ | refine blk_drew ?_ | refine blk_alloc ?_ _)); refine blk_put (cs := #[.int .i64 0, .int .i64 0]) ?_ 0 _ rfl; (with_reducible repeat (first | refine blk_drewN ?_ _ | refine blk_drew ?_ | refine blk_alloc ?_ _)); exact BK315.out) Try.underlying29 rfl (by kernel_rfl)) rfl ?_
    exact ⟨by first | rfl | (simp [errW_none, errW_some] <;> rfl) | (simp [*, errW_none, errW_some] <;> rfl), by repeat (first | (with_reducible first | exact HB.out | apply below_alloc | apply pw_below_drewN | apply below_drew1 | refine below_set ?_ GE315.out) | exact HB.out)⟩
  · rw [if_neg c3] at H
    have c3b0 : (a1 == 0) = false := beq_eq_false_iff_ne.mpr c3
    have c3b1 : (a1 != 0) = true := bne_iff_ne.mpr c3
    replace H := Option.bind_eq_some_iff.mp H
    obtain ⟨t316, A60, H⟩ := H
    replace H : ((ratio_abs.f a1).bind fun t317 => ((ratio_common.f t316 t317).bind fun t318 => (if t318 = 0 then (none) else (if (mx (IntKind.u64.wrap (Int.tdiv t316 t318)) (IntKind.u64.wrap (Int.tdiv t317 t318))) > 1000000000 then (some (0, 0, 10)) else (if ((decide (a0 < 0)) != (decide (a1 < 0))) = true then (some (wrap64 (-(wrap64 (IntKind.u64.wrap (Int.tdiv t316 t318)))), wrap64 (IntKind.u64.wrap (Int.tdiv t317 t318)), 0)) else (some (wrap64 (IntKind.u64.wrap (Int.tdiv t316 t318)), wrap64 (IntKind.u64.wrap (Int.tdiv t317 t318)), 0))))))) = some (r1, r2, r3) := H
    have A6 := Aside0.mk A60
    clear A60
    replace H := Option.bind_eq_some_iff.mp H
    obtain ⟨t317, A70, H⟩ := H
    replace H : ((ratio_common.f t316 t317).bind fun t318 => (if t318 = 0 then (none) else (if (mx (IntKind.u64.wrap (Int.tdiv t316 t318)) (IntKind.u64.wrap (Int.tdiv t317 t318))) > 1000000000 then (some (0, 0, 10)) else (if ((decide (a0 < 0)) != (decide (a1 < 0))) = true then (some (wrap64 (-(wrap64 (IntKind.u64.wrap (Int.tdiv t316 t318)))), wrap64 (IntKind.u64.wrap (Int.tdiv t317 t318)), 0)) else (some (wrap64 (IntKind.u64.wrap (Int.tdiv t316 t318)), wrap64 (IntKind.u64.wrap (Int.tdiv t317 t318)), 0)))))) = some (r1, r2, r3) := H
    have A7 := Aside0.mk A70
    clear A70
    replace H := Option.bind_eq_some_iff.mp H
    obtain ⟨t318, A80, H⟩ := H
    replace H : (if t318 = 0 then (none) else (if (mx (IntKind.u64.wrap (Int.tdiv t316 t318)) (IntKind.u64.wrap (Int.tdiv t317 t318))) > 1000000000 then (some (0, 0, 10)) else (if ((decide (a0 < 0)) != (decide (a1 < 0))) = true then (some (wrap64 (-(wrap64 (IntKind.u64.wrap (Int.tdiv t316 t318)))), wrap64 (IntKind.u64.wrap (Int.tdiv t317 t318)), 0)) else (some (wrap64 (IntKind.u64.wrap (Int.tdiv t316 t318)), wrap64 (IntKind.u64.wrap (Int.tdiv t317 t318)), 0))))) = some (r1, r2, r3) := H
    have A8 := Aside0.mk A80
    clear A80
    by_cases c9 : t318 = 0
    · rw [if_pos c9] at H
      exact absurd H (by simp)
    · rw [if_neg c9] at H
      have c9b0 : (t318 == 0) = false := beq_eq_false_iff_ne.mpr c9
      have c9b1 : (t318 != 0) = true := bne_iff_ne.mpr c9
      obtain ⟨ji10, hji10⟩ : ∃ j_ : Int, (mx (IntKind.u64.wrap (Int.tdiv t316 t318)) (IntKind.u64.wrap (Int.tdiv t317 t318))) = j_ := ⟨_, rfl⟩
      replace H : (if (ji10) > 1000000000 then (some (0, 0, 10)) else (if ((decide (a0 < 0)) != (decide (a1 < 0))) = true then (some (wrap64 (-(wrap64 (IntKind.u64.wrap (Int.tdiv t316 t318)))), wrap64 (IntKind.u64.wrap (Int.tdiv t317 t318)), 0)) else (some (wrap64 (IntKind.u64.wrap (Int.tdiv t316 t318)), wrap64 (IntKind.u64.wrap (Int.tdiv t317 t318)), 0)))) = some (r1, r2, r3) := by first | (rw [hji10] at H; exact H) | (simp only [hji10] at H ⊢; exact H)
      (try rw [hji10] at A6)
      (try rw [hji10] at A7)
      (try rw [hji10] at A8)
      have hji10_ : (if (IntKind.u64.wrap (Int.tdiv t316 t318)) < (IntKind.u64.wrap (Int.tdiv t317 t318)) then (IntKind.u64.wrap (Int.tdiv t317 t318)) else (IntKind.u64.wrap (Int.tdiv t316 t318))) = ji10 := hji10
      by_cases c11 : (ji10) > 1000000000
      · rw [if_pos c11] at H
        have c11b0 : decide (1000000000 < (ji10)) = true := decide_eq_true c11
        clear c11
        simp only [Option.some.injEq, Prod.mk.injEq] at H
        obtain ⟨rfl, rfl, rfl⟩ := H
        go_enter Try.func48, Try.ntmps48
        go_wp2_with (first | ((with_reducible refine gate_dst (N := 4) rfl ?_); refine box_event ?hg (N := 4) ?hd (cs := #[.int .i64 0, .int .i64 0]) (t := 29) ?hr ?_; (case hd => rfl); (case hg => rfl); (case hr => first | (go_simp; done) | (go_simp; rfl)); intro gb315 hg w12 hbox hb; have n0_ := Aside0.mk (below_step (by repeat (first | (with_reducible first | exact HB.out | apply below_alloc | apply pw_below_drewN | apply below_drew1) | exact HB.out)) hb); have n1_ := Aside0.mk (hbox); have n2_ := Aside0.mk ((by rw [hg]; exact (below_size (by repeat (first | (with_reducible first | exact HB.out | apply below_alloc | apply pw_below_drewN | apply below_drew1) | exact HB.out))) : w.heap.size ≤ gb315)); have n3_ := Aside0.mk ((by rw [hg]; exact (below_size (by repeat (first | (with_reducible first | exact HB.out | apply below_alloc | apply pw_below_drewN | apply below_drew1) | exact HB.out))) : w.heap.size ≤ gb315)); clear HB; have HB := n0_; have BK315 := n1_; have GW315 := n2_; have GE315 := n3_; clear n0_ n1_ n2_ n3_; clear hb hbox hg) | (go_at_call 36; (with_reducible refine (ratio_abs.calls a0 t316 _ A6.out).mono ?_); rintro e w' ⟨rfl, ⟨nd, rfl⟩⟩; (try first | exact ⟨rfl, _, World.drewN_drewN _ _ _⟩ | exact ⟨rfl, _, Eq.trans (World.drewN_drewN _ _ _) (congrArg (World.drewN _) (Nat.add_assoc _ _ _))⟩)) | (go_at_call 36; (with_reducible refine (ratio_abs.calls a1 t317 _ A7.out).mono ?_); rintro e w' ⟨rfl, ⟨nd, rfl⟩⟩; (try first | exact ⟨rfl, _, World.drewN_drewN _ _ _⟩ | exact ⟨rfl, _, Eq.trans (World.drewN_drewN _ _ _) (congrArg (World.drewN _) (Nat.add_assoc _ _ _))⟩)) | (go_at_call 37; (with_reducible refine (ratio_common.calls t316 t317 t318 _ A8.out).mono ?_); rintro e w' ⟨rfl, ⟨nd, rfl⟩⟩; (try first | exact ⟨rfl, _, World.drewN_drewN _ _ _⟩ | exact ⟨rfl, _, Eq.trans (World.drewN_drewN _ _ _) (congrArg (World.drewN _) (Nat.add_assoc _ _ _))⟩); have hcz13_0 : w12.cell? ⟨gb315, 0, none⟩ = some (.int .i64 0) := (blk_cell BK315.out 0).trans rfl; have hcz13_1 : w12.cell? ⟨gb315, 1, none⟩ = some (.int .i64 0) := (blk_cell BK315.out 1).trans rfl; have hfz13_0 := blk_frozen BK315.out 0; have hfz13_1 := blk_frozen BK315.out 1))
        repeat (go_quiet (first | ((with_reducible refine gate_dst (N := 4) rfl ?_); refine box_event ?hg (N := 4) ?hd (cs := #[.int .i64 0, .int .i64 0]) (t := 29) ?hr ?_; (case hd => rfl); (case hg => rfl); (case hr => first | (go_simp; done) | (go_simp; rfl)); intro gb315 hg w12 hbox hb; have n0_ := Aside0.mk (below_step (by repeat (first | (with_reducible first | exact HB.out | apply below_alloc | apply pw_below_drewN | apply below_drew1) | exact HB.out)) hb); have n1_ := Aside0.mk (hbox); have n2_ := Aside0.mk ((by rw [hg]; exact (below_size (by repeat (first | (with_reducible first | exact HB.out | apply below_alloc | apply pw_below_drewN | apply below_drew1) | exact HB.out))) : w.heap.size ≤ gb315)); have n3_ := Aside0.mk ((by rw [hg]; exact (below_size (by repeat (first | (with_reducible first | exact HB.out | apply below_alloc | apply pw_below_drewN | apply below_drew1) | exact HB.out))) : w.heap.size ≤ gb315)); clear HB; have HB := n0_; have BK315 := n1_; have GW315 := n2_; have GE315 := n3_; clear n0_ n1_ n2_ n3_; clear hb hbox hg) | (go_at_call 36; (with_reducible refine (ratio_abs.calls a0 t316 _ A6.out).mono ?_); rintro e w' ⟨rfl, ⟨nd, rfl⟩⟩; (try first | exact ⟨rfl, _, World.drewN_drewN _ _ _⟩ | exact ⟨rfl, _, Eq.trans (World.drewN_drewN _ _ _) (congrArg (World.drewN _) (Nat.add_assoc _ _ _))⟩)) | (go_at_call 36; (with_reducible refine (ratio_abs.calls a1 t317 _ A7.out).mono ?_); rintro e w' ⟨rfl, ⟨nd, rfl⟩⟩; (try first | exact ⟨rfl, _, World.drewN_drewN _ _ _⟩ | exact ⟨rfl, _, Eq.trans (World.drewN_drewN _ _ _) (congrArg (World.drewN _) (Nat.add_assoc _ _ _))⟩)) | (go_at_call 37; (with_reducible refine (ratio_common.calls t316 t317 t318 _ A8.out).mono ?_); rintro e w' ⟨rfl, ⟨nd, rfl⟩⟩; (try first | exact ⟨rfl, _, World.drewN_drewN _ _ _⟩ | exact ⟨rfl, _, Eq.trans (World.drewN_drewN _ _ _) (congrArg (World.drewN _) (Nat.add_assoc _ _ _))⟩); have hcz13_0 : w12.cell? ⟨gb315, 0, none⟩ = some (.int .i64 0) := (blk_cell BK315.out 0).trans rfl; have hcz13_1 : w12.cell? ⟨gb315, 1, none⟩ = some (.int .i64 0) := (blk_cell BK315.out 1).trans rfl; have hfz13_0 := blk_frozen BK315.out 0; have hfz13_1 := blk_frozen BK315.out 1)); try go_wp2_with (first | ((with_reducible refine gate_dst (N := 4) rfl ?_); refine box_event ?hg (N := 4) ?hd (cs := #[.int .i64 0, .int .i64 0]) (t := 29) ?hr ?_; (case hd => rfl); (case hg => rfl); (case hr => first | (go_simp; done) | (go_simp; rfl)); intro gb315 hg w12 hbox hb; have n0_ := Aside0.mk (below_step (by repeat (first | (with_reducible first | exact HB.out | apply below_alloc | apply pw_below_drewN | apply below_drew1) | exact HB.out)) hb); have n1_ := Aside0.mk (hbox); have n2_ := Aside0.mk ((by rw [hg]; exact (below_size (by repeat (first | (with_reducible first | exact HB.out | apply below_alloc | apply pw_below_drewN | apply below_drew1) | exact HB.out))) : w.heap.size ≤ gb315)); have n3_ := Aside0.mk ((by rw [hg]; exact (below_size (by repeat (first | (with_reducible first | exact HB.out | apply below_alloc | apply pw_below_drewN | apply below_drew1) | exact HB.out))) : w.heap.size ≤ gb315)); clear HB; have HB := n0_; have BK315 := n1_; have GW315 := n2_; have GE315 := n3_; clear n0_ n1_ n2_ n3_; clear hb hbox hg) | (go_at_call 36; (with_reducible refine (ratio_abs.calls a0 t316 _ A6.out).mono ?_); rintro e w' ⟨rfl, ⟨nd, rfl⟩⟩; (try first | exact ⟨rfl, _, World.drewN_drewN _ _ _⟩ | exact ⟨rfl, _, Eq.trans (World.drewN_drewN _ _ _) (congrArg (World.drewN _) (Nat.add_assoc _ _ _))⟩)) | (go_at_call 36; (with_reducible refine (ratio_abs.calls a1 t317 _ A7.out).mono ?_); rintro e w' ⟨rfl, ⟨nd, rfl⟩⟩; (try first | exact ⟨rfl, _, World.drewN_drewN _ _ _⟩ | exact ⟨rfl, _, Eq.trans (World.drewN_drewN _ _ _) (congrArg (World.drewN _) (Nat.add_assoc _ _ _))⟩)) | (go_at_call 37; (with_reducible refine (ratio_common.calls t316 t317 t318 _ A8.out).mono ?_); rintro e w' ⟨rfl, ⟨nd, rfl⟩⟩; (try first | exact ⟨rfl, _, World.drewN_drewN _ _ _⟩ | exact ⟨rfl, _, Eq.trans (World.drewN_drewN _ _ _) (congrArg (World.drewN _) (Nat.add_assoc _ _ _))⟩); have hcz13_0 : w12.cell? ⟨gb315, 0, none⟩ = some (.int .i64 0) := (blk_cell BK315.out 0).trans rfl; have hcz13_1 : w12.cell? ⟨gb315, 1, none⟩ = some (.int .i64 0) := (blk_cell BK315.out 1).trans rfl; have hfz13_0 := blk_frozen BK315.out 0; have hfz13_1 := blk_frozen BK315.out 1)))
        refine bodyPost_ret (results_ct rfl _ _ gb315 29 #[.int .i64 0, .int .i64 0] (0, 0) _ rfl (by (with_reducible repeat (first | refine blk_drewN ?_ _ | refine blk_drew ?_ | refine blk_alloc ?_ _)); refine blk_put (cs := #[.int .i64 0, .int .i64 0]) ?_ 1 _ rfl; (with_reducible repeat (first | refine blk_drewN ?_ _ | refine blk_drew ?_ | refine blk_alloc ?_ _)); refine blk_put (cs := #[.int .i64 0, .int .i64 0]) ?_ 0 _ rfl; (with_reducible repeat (first | refine blk_drewN ?_ _ | refine blk_drew ?_ | refine blk_alloc ?_ _)); exact BK315.out) Try.underlying29 rfl (by kernel_rfl)) rfl ?_
        exact ⟨by first | rfl | (simp [errW_none, errW_some] <;> rfl) | (simp only [← hji10]; first | rfl | (simp [errW_none, errW_some] <;> rfl)) | (simp [*, errW_none, errW_some] <;> rfl), by repeat (first | (with_reducible first | exact HB.out | apply below_alloc | apply pw_below_drewN | apply below_drew1 | refine below_set ?_ GE315.out) | exact HB.out)⟩
      · rw [if_neg c11] at H
        have c11b0 : decide (1000000000 < (ji10)) = false := decide_eq_false c11
        clear c11
        by_cases c14 : ((decide (a0 < 0)) != (decide (a1 < 0))) = true
        · rw [if_pos c14] at H
          have c14b0 : ((decide (a0 < 0)) != (decide (a1 < 0))) = true := c14
          (try (have c14b1 : decide ((decide (a0 < 0)) = (decide (a1 < 0))) = false := by simpa using c14))
          (try (have c14b2 : ((decide (a0 < 0)) == (decide (a1 < 0))) = false := by simpa using c14))
          (try (have c14b3 : ¬ ((decide (a0 < 0)) = (decide (a1 < 0))) := by simpa using c14))
          clear c14
          simp only [Option.some.injEq, Prod.mk.injEq] at H
          obtain ⟨rfl, rfl, rfl⟩ := H
          go_enter Try.func48, Try.ntmps48
          go_wp2_with (first | ((with_reducible refine gate_dst (N := 4) rfl ?_); refine box_event ?hg (N := 4) ?hd (cs := #[.int .i64 0, .int .i64 0]) (t := 29) ?hr ?_; (case hd => rfl); (case hg => rfl); (case hr => first | (go_simp; done) | (go_simp; rfl)); intro gb315 hg w15 hbox hb; have n0_ := Aside0.mk (below_step (by repeat (first | (with_reducible first | exact HB.out | apply below_alloc | apply pw_below_drewN | apply below_drew1) | exact HB.out)) hb); have n1_ := Aside0.mk (hbox); have n2_ := Aside0.mk ((by rw [hg]; exact (below_size (by repeat (first | (with_reducible first | exact HB.out | apply below_alloc | apply pw_below_drewN | apply below_drew1) | exact HB.out))) : w.heap.size ≤ gb315)); have n3_ := Aside0.mk ((by rw [hg]; exact (below_size (by repeat (first | (with_reducible first | exact HB.out | apply below_alloc | apply pw_below_drewN | apply below_drew1) | exact HB.out))) : w.heap.size ≤ gb315)); clear HB; have HB := n0_; have BK315 := n1_; have GW315 := n2_; have GE315 := n3_; clear n0_ n1_ n2_ n3_; clear hb hbox hg) | (go_at_call 36; (with_reducible refine (ratio_abs.calls a0 t316 _ A6.out).mono ?_); rintro e w' ⟨rfl, ⟨nd, rfl⟩⟩; (try first | exact ⟨rfl, _, World.drewN_drewN _ _ _⟩ | exact ⟨rfl, _, Eq.trans (World.drewN_drewN _ _ _) (congrArg (World.drewN _) (Nat.add_assoc _ _ _))⟩)) | (go_at_call 36; (with_reducible refine (ratio_abs.calls a1 t317 _ A7.out).mono ?_); rintro e w' ⟨rfl, ⟨nd, rfl⟩⟩; (try first | exact ⟨rfl, _, World.drewN_drewN _ _ _⟩ | exact ⟨rfl, _, Eq.trans (World.drewN_drewN _ _ _) (congrArg (World.drewN _) (Nat.add_assoc _ _ _))⟩)) | (go_at_call 37; (with_reducible refine (ratio_common.calls t316 t317 t318 _ A8.out).mono ?_); rintro e w' ⟨rfl, ⟨nd, rfl⟩⟩; (try first | exact ⟨rfl, _, World.drewN_drewN _ _ _⟩ | exact ⟨rfl, _, Eq.trans (World.drewN_drewN _ _ _) (congrArg (World.drewN _) (Nat.add_assoc _ _ _))⟩)) | ((with_reducible refine gate_dst (N := 9) rfl ?_); refine box_event ?hg (N := 9) ?hd (cs := #[.int .i64 0, .int .i64 0]) (t := 29) ?hr ?_; (case hd => rfl); (case hg => rfl); (case hr => first | (go_simp; done) | (go_simp; rfl)); intro gb319 hg w16 hbox hb; have n0_ := Aside0.mk (blk_below (g := gb315) (o := .cells #[.int .i64 0, .int .i64 0] 29 (0, 0)) (by (with_reducible repeat (first | refine blk_drewN ?_ _ | refine blk_drew ?_ | refine blk_alloc ?_ _)); exact BK315.out) hb); have n1_ := Aside0.mk (below_step (by repeat (first | (with_reducible first | exact HB.out | apply below_alloc | apply pw_below_drewN | apply below_drew1 | refine below_set ?_ GE315.out) | exact HB.out)) hb); have n2_ := Aside0.mk (hbox); have n3_ := Aside0.mk ((by rw [hg]; exact (below_size (by repeat (first | (with_reducible first | exact HB.out | apply below_alloc | apply pw_below_drewN | apply below_drew1 | refine below_set ?_ GE315.out) | exact HB.out))) : w.heap.size ≤ gb319)); have n4_ := Aside0.mk ((by rw [hg]; exact (below_size (by repeat (first | (with_reducible first | exact HB.out | apply below_alloc | apply pw_below_drewN | apply below_drew1 | refine below_set ?_ GE315.out) | exact HB.out))) : w.heap.size ≤ gb319)); have n5_ := Aside0.mk ((by rw [hg]; exact Nat.ne_of_lt (blk_lt (g := gb315) (o := .cells #[.int .i64 0, .int .i64 0] 29 (0, 0)) (by (with_reducible repeat (first | refine blk_drewN ?_ _ | refine blk_drew ?_ | refine blk_alloc ?_ _)); exact BK315.out)) : gb315 ≠ gb319)); have n6_ := Aside0.mk ((by rw [hg]; exact Nat.ne_of_gt (blk_lt (g := gb315) (o := .cells #[.int .i64 0, .int .i64 0] 29 (0, 0)) (by (with_reducible repeat (first | refine blk_drewN ?_ _ | refine blk_drew ?_ | refine blk_alloc ?_ _)); exact BK315.out)) : gb319 ≠ gb315)); clear BK315; clear HB; have BK315 := n0_; have HB := n1_; have BK319 := n2_; have GW319 := n3_; have GE319 := n4_; have NB315_319 := n5_; have NB319_315 := n6_; clear n0_ n1_ n2_ n3_ n4_ n5_ n6_; clear hb hbox hg; have hnb17 := NB319_315.out; have hnc17 := NB315_319.out; have hcz18_0 : w16.cell? ⟨gb319, 0, none⟩ = some (.int .i64 0) := (blk_cell BK319.out 0).trans rfl; have hcz18_1 : w16.cell? ⟨gb319, 1, none⟩ = some (.int .i64 0) := (blk_cell BK319.out 1).trans rfl; have hfz18_0 := blk_frozen BK319.out 0; have hfz18_1 := blk_frozen BK319.out 1; have hcz19_0 : w16.cell? ⟨gb315, 0, none⟩ = some (.int .i64 0) := (blk_cell BK315.out 0).trans rfl; have hcz19_1 : w16.cell? ⟨gb315, 1, none⟩ = some (.int .i64 0) := (blk_cell BK315.out 1).trans rfl; have hfz19_0 := blk_frozen BK315.out 0; have hfz19_1 := blk_frozen BK315.out 1))
          repeat (go_quiet (first | ((with_reducible refine gate_dst (N := 4) rfl ?_); refine box_event ?hg (N := 4) ?hd (cs := #[.int .i64 0, .int .i64 0]) (t := 29) ?hr ?_; (case hd => rfl); (case hg => rfl); (case hr => first | (go_simp; done) | (go_simp; rfl)); intro gb315 hg w15 hbox hb; have n0_ := Aside0.mk (below_step (by repeat (first | (with_reducible first | exact HB.out | apply below_alloc | apply pw_below_drewN | apply below_drew1) | exact HB.out)) hb); have n1_ := Aside0.mk (hbox); have n2_ := Aside0.mk ((by rw [hg]; exact (below_size (by repeat (first | (with_reducible first | exact HB.out | apply below_alloc | apply pw_below_drewN | apply below_drew1) | exact HB.out))) : w.heap.size ≤ gb315)); have n3_ := Aside0.mk ((by rw [hg]; exact (below_size (by repeat (first | (with_reducible first | exact HB.out | apply below_alloc | apply pw_below_drewN | apply below_drew1) | exact HB.out))) : w.heap.size ≤ gb315)); clear HB; have HB := n0_; have BK315 := n1_; have GW315 := n2_; have GE315 := n3_; clear n0_ n1_ n2_ n3_; clear hb hbox hg) | (go_at_call 36; (with_reducible refine (ratio_abs.calls a0 t316 _ A6.out).mono ?_); rintro e w' ⟨rfl, ⟨nd, rfl⟩⟩; (try first | exact ⟨rfl, _, World.drewN_drewN _ _ _⟩ | exact ⟨rfl, _, Eq.trans (World.drewN_drewN _ _ _) (congrArg (World.drewN _) (Nat.add_assoc _ _ _))⟩)) | (go_at_call 36; (with_reducible refine (ratio_abs.calls a1 t317 _ A7.out).mono ?_); rintro e w' ⟨rfl, ⟨nd, rfl⟩⟩; (try first | exact ⟨rfl, _, World.drewN_drewN _ _ _⟩ | exact ⟨rfl, _, Eq.trans (World.drewN_drewN _ _ _) (congrArg (World.drewN _) (Nat.add_assoc _ _ _))⟩)) | (go_at_call 37; (with_reducible refine (ratio_common.calls t316 t317 t318 _ A8.out).mono ?_); rintro e w' ⟨rfl, ⟨nd, rfl⟩⟩; (try first | exact ⟨rfl, _, World.drewN_drewN _ _ _⟩ | exact ⟨rfl, _, Eq.trans (World.drewN_drewN _ _ _) (congrArg (World.drewN _) (Nat.add_assoc _ _ _))⟩)) | ((with_reducible refine gate_dst (N := 9) rfl ?_); refine box_event ?hg (N := 9) ?hd (cs := #[.int .i64 0, .int .i64 0]) (t := 29) ?hr ?_; (case hd => rfl); (case hg => rfl); (case hr => first | (go_simp; done) | (go_simp; rfl)); intro gb319 hg w16 hbox hb; have n0_ := Aside0.mk (blk_below (g := gb315) (o := .cells #[.int .i64 0, .int .i64 0] 29 (0, 0)) (by (with_reducible repeat (first | refine blk_drewN ?_ _ | refine blk_drew ?_ | refine blk_alloc ?_ _)); exact BK315.out) hb); have n1_ := Aside0.mk (below_step (by repeat (first | (with_reducible first | exact HB.out | apply below_alloc | apply pw_below_drewN | apply below_drew1 | refine below_set ?_ GE315.out) | exact HB.out)) hb); have n2_ := Aside0.mk (hbox); have n3_ := Aside0.mk ((by rw [hg]; exact (below_size (by repeat (first | (with_reducible first | exact HB.out | apply below_alloc | apply pw_below_drewN | apply below_drew1 | refine below_set ?_ GE315.out) | exact HB.out))) : w.heap.size ≤ gb319)); have n4_ := Aside0.mk ((by rw [hg]; exact (below_size (by repeat (first | (with_reducible first | exact HB.out | apply below_alloc | apply pw_below_drewN | apply below_drew1 | refine below_set ?_ GE315.out) | exact HB.out))) : w.heap.size ≤ gb319)); have n5_ := Aside0.mk ((by rw [hg]; exact Nat.ne_of_lt (blk_lt (g := gb315) (o := .cells #[.int .i64 0, .int .i64 0] 29 (0, 0)) (by (with_reducible repeat (first | refine blk_drewN ?_ _ | refine blk_drew ?_ | refine blk_alloc ?_ _)); exact BK315.out)) : gb315 ≠ gb319)); have n6_ := Aside0.mk ((by rw [hg]; exact Nat.ne_of_gt (blk_lt (g := gb315) (o := .cells #[.int .i64 0, .int .i64 0] 29 (0, 0)) (by (with_reducible repeat (first | refine blk_drewN ?_ _ | refine blk_drew ?_ | refine blk_alloc ?_ _)); exact BK315.out)) : gb319 ≠ gb315)); clear BK315; clear HB; have BK315 := n0_; have HB := n1_; have BK319 := n2_; have GW319 := n3_; have GE319 := n4_; have NB315_319 := n5_; have NB319_315 := n6_; clear n0_ n1_ n2_ n3_ n4_ n5_ n6_; clear hb hbox hg; have hnb17 := NB319_315.out; have hnc17 := NB315_319.out; have hcz18_0 : w16.cell? ⟨gb319, 0, none⟩ = some (.int .i64 0) := (blk_cell BK319.out 0).trans rfl; have hcz18_1 : w16.cell? ⟨gb319, 1, none⟩ = some (.int .i64 0) := (blk_cell BK319.out 1).trans rfl; have hfz18_0 := blk_frozen BK319.out 0; have hfz18_1 := blk_frozen BK319.out 1; have hcz19_0 : w16.cell? ⟨gb315, 0, none⟩ = some (.int .i64 0) := (blk_cell BK315.out 0).trans rfl; have hcz19_1 : w16.cell? ⟨gb315, 1, none⟩ = some (.int .i64 0) := (blk_cell BK315.out 1).trans rfl; have hfz19_0 := blk_frozen BK315.out 0; have hfz19_1 := blk_frozen BK315.out 1)); try go_wp2_with (first | ((with_reducible refine gate_dst (N := 4) rfl ?_); refine box_event ?hg (N := 4) ?hd (cs := #[.int .i64 0, .int .i64 0]) (t := 29) ?hr ?_; (case hd => rfl); (case hg => rfl); (case hr => first | (go_simp; done) | (go_simp; rfl)); intro gb315 hg w15 hbox hb; have n0_ := Aside0.mk (below_step (by repeat (first | (with_reducible first | exact HB.out | apply below_alloc | apply pw_below_drewN | apply below_drew1) | exact HB.out)) hb); have n1_ := Aside0.mk (hbox); have n2_ := Aside0.mk ((by rw [hg]; exact (below_size (by repeat (first | (with_reducible first | exact HB.out | apply below_alloc | apply pw_below_drewN | apply below_drew1) | exact HB.out))) : w.heap.size ≤ gb315)); have n3_ := Aside0.mk ((by rw [hg]; exact (below_size (by repeat (first | (with_reducible first | exact HB.out | apply below_alloc | apply pw_below_drewN | apply below_drew1) | exact HB.out))) : w.heap.size ≤ gb315)); clear HB; have HB := n0_; have BK315 := n1_; have GW315 := n2_; have GE315 := n3_; clear n0_ n1_ n2_ n3_; clear hb hbox hg) | (go_at_call 36; (with_reducible refine (ratio_abs.calls a0 t316 _ A6.out).mono ?_); rintro e w' ⟨rfl, ⟨nd, rfl⟩⟩; (try first | exact ⟨rfl, _, World.drewN_drewN _ _ _⟩ | exact ⟨rfl, _, Eq.trans (World.drewN_drewN _ _ _) (congrArg (World.drewN _) (Nat.add_assoc _ _ _))⟩)) | (go_at_call 36; (with_reducible refine (ratio_abs.calls a1 t317 _ A7.out).mono ?_); rintro e w' ⟨rfl, ⟨nd, rfl⟩⟩; (try first | exact ⟨rfl, _, World.drewN_drewN _ _ _⟩ | exact ⟨rfl, _, Eq.trans (World.drewN_drewN _ _ _) (congrArg (World.drewN _) (Nat.add_assoc _ _ _))⟩)) | (go_at_call 37; (with_reducible refine (ratio_common.calls t316 t317 t318 _ A8.out).mono ?_); rintro e w' ⟨rfl, ⟨nd, rfl⟩⟩; (try first | exact ⟨rfl, _, World.drewN_drewN _ _ _⟩ | exact ⟨rfl, _, Eq.trans (World.drewN_drewN _ _ _) (congrArg (World.drewN _) (Nat.add_assoc _ _ _))⟩)) | ((with_reducible refine gate_dst (N := 9) rfl ?_); refine box_event ?hg (N := 9) ?hd (cs := #[.int .i64 0, .int .i64 0]) (t := 29) ?hr ?_; (case hd => rfl); (case hg => rfl); (case hr => first | (go_simp; done) | (go_simp; rfl)); intro gb319 hg w16 hbox hb; have n0_ := Aside0.mk (blk_below (g := gb315) (o := .cells #[.int .i64 0, .int .i64 0] 29 (0, 0)) (by (with_reducible repeat (first | refine blk_drewN ?_ _ | refine blk_drew ?_ | refine blk_alloc ?_ _)); exact BK315.out) hb); have n1_ := Aside0.mk (below_step (by repeat (first | (with_reducible first | exact HB.out | apply below_alloc | apply pw_below_drewN | apply below_drew1 | refine below_set ?_ GE315.out) | exact HB.out)) hb); have n2_ := Aside0.mk (hbox); have n3_ := Aside0.mk ((by rw [hg]; exact (below_size (by repeat (first | (with_reducible first | exact HB.out | apply below_alloc | apply pw_below_drewN | apply below_drew1 | refine below_set ?_ GE315.out) | exact HB.out))) : w.heap.size ≤ gb319)); have n4_ := Aside0.mk ((by rw [hg]; exact (below_size (by repeat (first | (with_reducible first | exact HB.out | apply below_alloc | apply pw_below_drewN | apply below_drew1 | refine below_set ?_ GE315.out) | exact HB.out))) : w.heap.size ≤ gb319)); have n5_ := Aside0.mk ((by rw [hg]; exact Nat.ne_of_lt (blk_lt (g := gb315) (o := .cells #[.int .i64 0, .int .i64 0] 29 (0, 0)) (by (with_reducible repeat (first | refine blk_drewN ?_ _ | refine blk_drew ?_ | refine blk_alloc ?_ _)); exact BK315.out)) : gb315 ≠ gb319)); have n6_ := Aside0.mk ((by rw [hg]; exact Nat.ne_of_gt (blk_lt (g := gb315) (o := .cells #[.int .i64 0, .int .i64 0] 29 (0, 0)) (by (with_reducible repeat (first | refine blk_drewN ?_ _ | refine blk_drew ?_ | refine blk_alloc ?_ _)); exact BK315.out)) : gb319 ≠ gb315)); clear BK315; clear HB; have BK315 := n0_; have HB := n1_; have BK319 := n2_; have GW319 := n3_; have GE319 := n4_; have NB315_319 := n5_; have NB319_315 := n6_; clear n0_ n1_ n2_ n3_ n4_ n5_ n6_; clear hb hbox hg; have hnb17 := NB319_315.out; have hnc17 := NB315_319.out; have hcz18_0 : w16.cell? ⟨gb319, 0, none⟩ = some (.int .i64 0) := (blk_cell BK319.out 0).trans rfl; have hcz18_1 : w16.cell? ⟨gb319, 1, none⟩ = some (.int .i64 0) := (blk_cell BK319.out 1).trans rfl; have hfz18_0 := blk_frozen BK319.out 0; have hfz18_1 := blk_frozen BK319.out 1; have hcz19_0 : w16.cell? ⟨gb315, 0, none⟩ = some (.int .i64 0) := (blk_cell BK315.out 0).trans rfl; have hcz19_1 : w16.cell? ⟨gb315, 1, none⟩ = some (.int .i64 0) := (blk_cell BK315.out 1).trans rfl; have hfz19_0 := blk_frozen BK315.out 0; have hfz19_1 := blk_frozen BK315.out 1)))
          refine bodyPost_ret (results_ct rfl _ _ gb315 29 #[.int .i64 (wrap64 (-(wrap64 (IntKind.u64.wrap (Int.tdiv t316 t318))))), .int .i64 (wrap64 (IntKind.u64.wrap (Int.tdiv t317 t318)))] (0, 0) _ rfl (by (with_reducible repeat (first | refine blk_drewN ?_ _ | refine blk_drew ?_ | refine blk_alloc ?_ _)); refine blk_put (cs := #[.int .i64 (wrap64 (-(wrap64 (IntKind.u64.wrap (Int.tdiv t316 t318))))), .int .i64 0]) ?_ 1 _ rfl; (with_reducible repeat (first | refine blk_drewN ?_ _ | refine blk_drew ?_ | refine blk_alloc ?_ _)); refine blk_put (cs := #[.int .i64 0, .int .i64 0]) ?_ 0 _ rfl; (with_reducible repeat (first | refine blk_drewN ?_ _ | refine blk_drew ?_ | refine blk_alloc ?_ _)); refine blk_far ?_ NB315_319.out _; (with_reducible repeat (first | refine blk_drewN ?_ _ | refine blk_drew ?_ | refine blk_alloc ?_ _)); refine blk_far ?_ NB315_319.out _; (with_reducible repeat (first | refine blk_drewN ?_ _ | refine blk_drew ?_ | refine blk_alloc ?_ _)); refine blk_far ?_ NB315_319.out _; (with_reducible repeat (first | refine blk_drewN ?_ _ | refine blk_drew ?_ | refine blk_alloc ?_ _)); exact BK315.out) Try.underlying29 rfl (by kernel_rfl)) rfl ?_
          exact ⟨by first | rfl | (simp [errW_none, errW_some] <;> rfl) | (simp only [← hji10]; first | rfl | (simp [errW_none, errW_some] <;> rfl)) | (simp [*, errW_none, errW_some] <;> rfl), by repeat (first | (with_reducible first | exact HB.out | apply below_alloc | apply pw_below_drewN | apply below_drew1 | refine below_set ?_ GE315.out | refine below_set ?_ GE319.out) | exact HB.out)⟩
        · rw [if_neg c14] at H
          have c14b0 : ((decide (a0 < 0)) != (decide (a1 < 0))) = false := by simpa using c14
          (try (have c14b1 : decide ((decide (a0 < 0)) = (decide (a1 < 0))) = true := by simpa using c14))
          (try (have c14b2 : ((decide (a0 < 0)) == (decide (a1 < 0))) = true := by simpa using c14))
          clear c14
          simp only [Option.some.injEq, Prod.mk.injEq] at H
          obtain ⟨rfl, rfl, rfl⟩ := H
          go_enter Try.func48, Try.ntmps48
          go_wp2_with (first | ((with_reducible refine gate_dst (N := 4) rfl ?_); refine box_event ?hg (N := 4) ?hd (cs := #[.int .i64 0, .int .i64 0]) (t := 29) ?hr ?_; (case hd => rfl); (case hg => rfl); (case hr => first | (go_simp; done) | (go_simp; rfl)); intro gb315 hg w20 hbox hb; have n0_ := Aside0.mk (below_step (by repeat (first | (with_reducible first | exact HB.out | apply below_alloc | apply pw_below_drewN | apply below_drew1) | exact HB.out)) hb); have n1_ := Aside0.mk (hbox); have n2_ := Aside0.mk ((by rw [hg]; exact (below_size (by repeat (first | (with_reducible first | exact HB.out | apply below_alloc | apply pw_below_drewN | apply below_drew1) | exact HB.out))) : w.heap.size ≤ gb315)); have n3_ := Aside0.mk ((by rw [hg]; exact (below_size (by repeat (first | (with_reducible first | exact HB.out | apply below_alloc | apply pw_below_drewN | apply below_drew1) | exact HB.out))) : w.heap.size ≤ gb315)); clear HB; have HB := n0_; have BK315 := n1_; have GW315 := n2_; have GE315 := n3_; clear n0_ n1_ n2_ n3_; clear hb hbox hg) | (go_at_call 36; (with_reducible refine (ratio_abs.calls a0 t316 _ A6.out).mono ?_); rintro e w' ⟨rfl, ⟨nd, rfl⟩⟩; (try first | exact ⟨rfl, _, World.drewN_drewN _ _ _⟩ | exact ⟨rfl, _, Eq.trans (World.drewN_drewN _ _ _) (congrArg (World.drewN _) (Nat.add_assoc _ _ _))⟩)) | (go_at_call 36; (with_reducible refine (ratio_abs.calls a1 t317 _ A7.out).mono ?_); rintro e w' ⟨rfl, ⟨nd, rfl⟩⟩; (try first | exact ⟨rfl, _, World.drewN_drewN _ _ _⟩ | exact ⟨rfl, _, Eq.trans (World.drewN_drewN _ _ _) (congrArg (World.drewN _) (Nat.add_assoc _ _ _))⟩)) | (go_at_call 37; (with_reducible refine (ratio_common.calls t316 t317 t318 _ A8.out).mono ?_); rintro e w' ⟨rfl, ⟨nd, rfl⟩⟩; (try first | exact ⟨rfl, _, World.drewN_drewN _ _ _⟩ | exact ⟨rfl, _, Eq.trans (World.drewN_drewN _ _ _) (congrArg (World.drewN _) (Nat.add_assoc _ _ _))⟩)) | ((with_reducible refine gate_dst (N := 9) rfl ?_); refine box_event ?hg (N := 9) ?hd (cs := #[.int .i64 0, .int .i64 0]) (t := 29) ?hr ?_; (case hd => rfl); (case hg => rfl); (case hr => first | (go_simp; done) | (go_simp; rfl)); intro gb319 hg w21 hbox hb; have n0_ := Aside0.mk (blk_below (g := gb315) (o := .cells #[.int .i64 0, .int .i64 0] 29 (0, 0)) (by (with_reducible repeat (first | refine blk_drewN ?_ _ | refine blk_drew ?_ | refine blk_alloc ?_ _)); exact BK315.out) hb); have n1_ := Aside0.mk (below_step (by repeat (first | (with_reducible first | exact HB.out | apply below_alloc | apply pw_below_drewN | apply below_drew1 | refine below_set ?_ GE315.out) | exact HB.out)) hb); have n2_ := Aside0.mk (hbox); have n3_ := Aside0.mk ((by rw [hg]; exact (below_size (by repeat (first | (with_reducible first | exact HB.out | apply below_alloc | apply pw_below_drewN | apply below_drew1 | refine below_set ?_ GE315.out) | exact HB.out))) : w.heap.size ≤ gb319)); have n4_ := Aside0.mk ((by rw [hg]; exact (below_size (by repeat (first | (with_reducible first | exact HB.out | apply below_alloc | apply pw_below_drewN | apply below_drew1 | refine below_set ?_ GE315.out) | exact HB.out))) : w.heap.size ≤ gb319)); have n5_ := Aside0.mk ((by rw [hg]; exact Nat.ne_of_lt (blk_lt (g := gb315) (o := .cells #[.int .i64 0, .int .i64 0] 29 (0, 0)) (by (with_reducible repeat (first | refine blk_drewN ?_ _ | refine blk_drew ?_ | refine blk_alloc ?_ _)); exact BK315.out)) : gb315 ≠ gb319)); have n6_ := Aside0.mk ((by rw [hg]; exact Nat.ne_of_gt (blk_lt (g := gb315) (o := .cells #[.int .i64 0, .int .i64 0] 29 (0, 0)) (by (with_reducible repeat (first | refine blk_drewN ?_ _ | refine blk_drew ?_ | refine blk_alloc ?_ _)); exact BK315.out)) : gb319 ≠ gb315)); clear BK315; clear HB; have BK315 := n0_; have HB := n1_; have BK319 := n2_; have GW319 := n3_; have GE319 := n4_; have NB315_319 := n5_; have NB319_315 := n6_; clear n0_ n1_ n2_ n3_ n4_ n5_ n6_; clear hb hbox hg; have hnb22 := NB319_315.out; have hnc22 := NB315_319.out; have hcz23_0 : w21.cell? ⟨gb319, 0, none⟩ = some (.int .i64 0) := (blk_cell BK319.out 0).trans rfl; have hcz23_1 : w21.cell? ⟨gb319, 1, none⟩ = some (.int .i64 0) := (blk_cell BK319.out 1).trans rfl; have hfz23_0 := blk_frozen BK319.out 0; have hfz23_1 := blk_frozen BK319.out 1; have hcz24_0 : w21.cell? ⟨gb315, 0, none⟩ = some (.int .i64 0) := (blk_cell BK315.out 0).trans rfl; have hcz24_1 : w21.cell? ⟨gb315, 1, none⟩ = some (.int .i64 0) := (blk_cell BK315.out 1).trans rfl; have hfz24_0 := blk_frozen BK315.out 0; have hfz24_1 := blk_frozen BK315.out 1))
          repeat (go_quiet (first | ((with_reducible refine gate_dst (N := 4) rfl ?_); refine box_event ?hg (N := 4) ?hd (cs := #[.int .i64 0, .int .i64 0]) (t := 29) ?hr ?_; (case hd => rfl); (case hg => rfl); (case hr => first | (go_simp; done) | (go_simp; rfl)); intro gb315 hg w20 hbox hb; have n0_ := Aside0.mk (below_step (by repeat (first | (with_reducible first | exact HB.out | apply below_alloc | apply pw_below_drewN | apply below_drew1) | exact HB.out)) hb); have n1_ := Aside0.mk (hbox); have n2_ := Aside0.mk ((by rw [hg]; exact (below_size (by repeat (first | (with_reducible first | exact HB.out | apply below_alloc | apply pw_below_drewN | apply below_drew1) | exact HB.out))) : w.heap.size ≤ gb315)); have n3_ := Aside0.mk ((by rw [hg]; exact (below_size (by repeat (first | (with_reducible first | exact HB.out | apply below_alloc | apply pw_below_drewN | apply below_drew1) | exact HB.out))) : w.heap.size ≤ gb315)); clear HB; have HB := n0_; have BK315 := n1_; have GW315 := n2_; have GE315 := n3_; clear n0_ n1_ n2_ n3_; clear hb hbox hg) | (go_at_call 36; (with_reducible refine (ratio_abs.calls a0 t316 _ A6.out).mono ?_); rintro e w' ⟨rfl, ⟨nd, rfl⟩⟩; (try first | exact ⟨rfl, _, World.drewN_drewN _ _ _⟩ | exact ⟨rfl, _, Eq.trans (World.drewN_drewN _ _ _) (congrArg (World.drewN _) (Nat.add_assoc _ _ _))⟩)) | (go_at_call 36; (with_reducible refine (ratio_abs.calls a1 t317 _ A7.out).mono ?_); rintro e w' ⟨rfl, ⟨nd, rfl⟩⟩; (try first | exact ⟨rfl, _, World.drewN_drewN _ _ _⟩ | exact ⟨rfl, _, Eq.trans (World.drewN_drewN _ _ _) (congrArg (World.drewN _) (Nat.add_assoc _ _ _))⟩)) | (go_at_call 37; (with_reducible refine (ratio_common.calls t316 t317 t318 _ A8.out).mono ?_); rintro e w' ⟨rfl, ⟨nd, rfl⟩⟩; (try first | exact ⟨rfl, _, World.drewN_drewN _ _ _⟩ | exact ⟨rfl, _, Eq.trans (World.drewN_drewN _ _ _) (congrArg (World.drewN _) (Nat.add_assoc _ _ _))⟩)) | ((with_reducible refine gate_dst (N := 9) rfl ?_); refine box_event ?hg (N := 9) ?hd (cs := #[.int .i64 0, .int .i64 0]) (t := 29) ?hr ?_; (case hd => rfl); (case hg => rfl); (case hr => first | (go_simp; done) | (go_simp; rfl)); intro gb319 hg w21 hbox hb; have n0_ := Aside0.mk (blk_below (g := gb315) (o := .cells #[.int .i64 0, .int .i64 0] 29 (0, 0)) (by (with_reducible repeat (first | refine blk_drewN ?_ _ | refine blk_drew ?_ | refine blk_alloc ?_ _)); exact BK315.out) hb); have n1_ := Aside0.mk (below_step (by repeat (first | (with_reducible first | exact HB.out | apply below_alloc | apply pw_below_drewN | apply below_drew1 | refine below_set ?_ GE315.out) | exact HB.out)) hb); have n2_ := Aside0.mk (hbox); have n3_ := Aside0.mk ((by rw [hg]; exact (below_size (by repeat (first | (with_reducible first | exact HB.out | apply below_alloc | apply pw_below_drewN | apply below_drew1 | refine below_set ?_ GE315.out) | exact HB.out))) : w.heap.size ≤ gb319)); have n4_ := Aside0.mk ((by rw [hg]; exact (below_size (by repeat (first | (with_reducible first | exact HB.out | apply below_alloc | apply pw_below_drewN | apply below_drew1 | refine below_set ?_ GE315.out) | exact HB.out))) : w.heap.size ≤ gb319)); have n5_ := Aside0.mk ((by rw [hg]; exact Nat.ne_of_lt (blk_lt (g := gb315) (o := .cells #[.int .i64 0, .int .i64 0] 29 (0, 0)) (by (with_reducible repeat (first | refine blk_drewN ?_ _ | refine blk_drew ?_ | refine blk_alloc ?_ _)); exact BK315.out)) : gb315 ≠ gb319)); have n6_ := Aside0.mk ((by rw [hg]; exact Nat.ne_of_gt (blk_lt (g := gb315) (o := .cells #[.int .i64 0, .int .i64 0] 29 (0, 0)) (by (with_reducible repeat (first | refine blk_drewN ?_ _ | refine blk_drew ?_ | refine blk_alloc ?_ _)); exact BK315.out)) : gb319 ≠ gb315)); clear BK315; clear HB; have BK315 := n0_; have HB := n1_; have BK319 := n2_; have GW319 := n3_; have GE319 := n4_; have NB315_319 := n5_; have NB319_315 := n6_; clear n0_ n1_ n2_ n3_ n4_ n5_ n6_; clear hb hbox hg; have hnb22 := NB319_315.out; have hnc22 := NB315_319.out; have hcz23_0 : w21.cell? ⟨gb319, 0, none⟩ = some (.int .i64 0) := (blk_cell BK319.out 0).trans rfl; have hcz23_1 : w21.cell? ⟨gb319, 1, none⟩ = some (.int .i64 0) := (blk_cell BK319.out 1).trans rfl; have hfz23_0 := blk_frozen BK319.out 0; have hfz23_1 := blk_frozen BK319.out 1; have hcz24_0 : w21.cell? ⟨gb315, 0, none⟩ = some (.int .i64 0) := (blk_cell BK315.out 0).trans rfl; have hcz24_1 : w21.cell? ⟨gb315, 1, none⟩ = some (.int .i64 0) := (blk_cell BK315.out 1).trans rfl; have hfz24_0 := blk_frozen BK315.out 0; have hfz24_1 := blk_frozen BK315.out 1)); try go_wp2_with (first | ((with_reducible refine gate_dst (N := 4) rfl ?_); refine box_event ?hg (N := 4) ?hd (cs := #[.int .i64 0, .int .i64 0]) (t := 29) ?hr ?_; (case hd => rfl); (case hg => rfl); (case hr => first | (go_simp; done) | (go_simp; rfl)); intro gb315 hg w20 hbox hb; have n0_ := Aside0.mk (below_step (by repeat (first | (with_reducible first | exact HB.out | apply below_alloc | apply pw_below_drewN | apply below_drew1) | exact HB.out)) hb); have n1_ := Aside0.mk (hbox); have n2_ := Aside0.mk ((by rw [hg]; exact (below_size (by repeat (first | (with_reducible first | exact HB.out | apply below_alloc | apply pw_below_drewN | apply below_drew1) | exact HB.out))) : w.heap.size ≤ gb315)); have n3_ := Aside0.mk ((by rw [hg]; exact (below_size (by repeat (first | (with_reducible first | exact HB.out | apply below_alloc | apply pw_below_drewN | apply below_drew1) | exact HB.out))) : w.heap.size ≤ gb315)); clear HB; have HB := n0_; have BK315 := n1_; have GW315 := n2_; have GE315 := n3_; clear n0_ n1_ n2_ n3_; clear hb hbox hg) | (go_at_call 36; (with_reducible refine (ratio_abs.calls a0 t316 _ A6.out).mono ?_); rintro e w' ⟨rfl, ⟨nd, rfl⟩⟩; (try first | exact ⟨rfl, _, World.drewN_drewN _ _ _⟩ | exact ⟨rfl, _, Eq.trans (World.drewN_drewN _ _ _) (congrArg (World.drewN _) (Nat.add_assoc _ _ _))⟩)) | (go_at_call 36; (with_reducible refine (ratio_abs.calls a1 t317 _ A7.out).mono ?_); rintro e w' ⟨rfl, ⟨nd, rfl⟩⟩; (try first | exact ⟨rfl, _, World.drewN_drewN _ _ _⟩ | exact ⟨rfl, _, Eq.trans (World.drewN_drewN _ _ _) (congrArg (World.drewN _) (Nat.add_assoc _ _ _))⟩)) | (go_at_call 37; (with_reducible refine (ratio_common.calls t316 t317 t318 _ A8.out).mono ?_); rintro e w' ⟨rfl, ⟨nd, rfl⟩⟩; (try first | exact ⟨rfl, _, World.drewN_drewN _ _ _⟩ | exact ⟨rfl, _, Eq.trans (World.drewN_drewN _ _ _) (congrArg (World.drewN _) (Nat.add_assoc _ _ _))⟩)) | ((with_reducible refine gate_dst (N := 9) rfl ?_); refine box_event ?hg (N := 9) ?hd (cs := #[.int .i64 0, .int .i64 0]) (t := 29) ?hr ?_; (case hd => rfl); (case hg => rfl); (case hr => first | (go_simp; done) | (go_simp; rfl)); intro gb319 hg w21 hbox hb; have n0_ := Aside0.mk (blk_below (g := gb315) (o := .cells #[.int .i64 0, .int .i64 0] 29 (0, 0)) (by (with_reducible repeat (first | refine blk_drewN ?_ _ | refine blk_drew ?_ | refine blk_alloc ?_ _)); exact BK315.out) hb); have n1_ := Aside0.mk (below_step (by repeat (first | (with_reducible first | exact HB.out | apply below_alloc | apply pw_below_drewN | apply below_drew1 | refine below_set ?_ GE315.out) | exact HB.out)) hb); have n2_ := Aside0.mk (hbox); have n3_ := Aside0.mk ((by rw [hg]; exact (below_size (by repeat (first | (with_reducible first | exact HB.out | apply below_alloc | apply pw_below_drewN | apply below_drew1 | refine below_set ?_ GE315.out) | exact HB.out))) : w.heap.size ≤ gb319)); have n4_ := Aside0.mk ((by rw [hg]; exact (below_size (by repeat (first | (with_reducible first | exact HB.out | apply below_alloc | apply pw_below_drewN | apply below_drew1 | refine below_set ?_ GE315.out) | exact HB.out))) : w.heap.size ≤ gb319)); have n5_ := Aside0.mk ((by rw [hg]; exact Nat.ne_of_lt (blk_lt (g := gb315) (o := .cells #[.int .i64 0, .int .i64 0] 29 (0, 0)) (by (with_reducible repeat (first | refine blk_drewN ?_ _ | refine blk_drew ?_ | refine blk_alloc ?_ _)); exact BK315.out)) : gb315 ≠ gb319)); have n6_ := Aside0.mk ((by rw [hg]; exact Nat.ne_of_gt (blk_lt (g := gb315) (o := .cells #[.int .i64 0, .int .i64 0] 29 (0, 0)) (by (with_reducible repeat (first | refine blk_drewN ?_ _ | refine blk_drew ?_ | refine blk_alloc ?_ _)); exact BK315.out)) : gb319 ≠ gb315)); clear BK315; clear HB; have BK315 := n0_; have HB := n1_; have BK319 := n2_; have GW319 := n3_; have GE319 := n4_; have NB315_319 := n5_; have NB319_315 := n6_; clear n0_ n1_ n2_ n3_ n4_ n5_ n6_; clear hb hbox hg; have hnb22 := NB319_315.out; have hnc22 := NB315_319.out; have hcz23_0 : w21.cell? ⟨gb319, 0, none⟩ = some (.int .i64 0) := (blk_cell BK319.out 0).trans rfl; have hcz23_1 : w21.cell? ⟨gb319, 1, none⟩ = some (.int .i64 0) := (blk_cell BK319.out 1).trans rfl; have hfz23_0 := blk_frozen BK319.out 0; have hfz23_1 := blk_frozen BK319.out 1; have hcz24_0 : w21.cell? ⟨gb315, 0, none⟩ = some (.int .i64 0) := (blk_cell BK315.out 0).trans rfl; have hcz24_1 : w21.cell? ⟨gb315, 1, none⟩ = some (.int .i64 0) := (blk_cell BK315.out 1).trans rfl; have hfz24_0 := blk_frozen BK315.out 0; have hfz24_1 := blk_frozen BK315.out 1)))
          refine bodyPost_ret (results_ct rfl _ _ gb315 29 #[.int .i64 (wrap64 (IntKind.u64.wrap (Int.tdiv t316 t318))), .int .i64 (wrap64 (IntKind.u64.wrap (Int.tdiv t317 t318)))] (0, 0) _ rfl (by (with_reducible repeat (first | refine blk_drewN ?_ _ | refine blk_drew ?_ | refine blk_alloc ?_ _)); refine blk_put (cs := #[.int .i64 (wrap64 (IntKind.u64.wrap (Int.tdiv t316 t318))), .int .i64 0]) ?_ 1 _ rfl; (with_reducible repeat (first | refine blk_drewN ?_ _ | refine blk_drew ?_ | refine blk_alloc ?_ _)); refine blk_put (cs := #[.int .i64 0, .int .i64 0]) ?_ 0 _ rfl; (with_reducible repeat (first | refine blk_drewN ?_ _ | refine blk_drew ?_ | refine blk_alloc ?_ _)); refine blk_far ?_ NB315_319.out _; (with_reducible repeat (first | refine blk_drewN ?_ _ | refine blk_drew ?_ | refine blk_alloc ?_ _)); refine blk_far ?_ NB315_319.out _; (with_reducible repeat (first | refine blk_drewN ?_ _ | refine blk_drew ?_ | refine blk_alloc ?_ _)); exact BK315.out) Try.underlying29 rfl (by kernel_rfl)) rfl ?_
          exact ⟨by first | rfl | (simp [errW_none, errW_some] <;> rfl) | (simp only [← hji10]; first | rfl | (simp [errW_none, errW_some] <;> rfl)) | (simp [*, errW_none, errW_some] <;> rfl), by repeat (first | (with_reducible first | exact HB.out | apply below_alloc | apply pw_below_drewN | apply below_drew1 | refine below_set ?_ GE315.out | refine below_set ?_ GE319.out) | exact HB.out)⟩

/-! ### ratio_deed_do: function 35 -/
/-- The variables of a deed: the function, both ratios, what comes of it. -/
structure D4 (W : World) (n g : Nat) (a b c d : Int) : Prop where
  f : W.heap[n]? = some (.cells #[.func (.func g) #[] #[]] 54 (0, 0))
  x : W.heap[n + 1]? = some (.cells #[.int .i64 a, .int .i64 b] 29 (0, 0))
  y : W.heap[n + 1 + 1]? = some (.cells #[.int .i64 c, .int .i64 d] 29 (0, 0))
  r : W.heap[n + 1 + 1 + 1]? = some (.cells #[.int .i64 0, .int .i64 0] 29 (0, 0))
theorem D4.step {W W1 : World} {n g : Nat} {a b c d : Int} (h : D4 W n g a b c d) (hb : Below W.heap.size W W1) : D4 W1 n g a b c d := ⟨blk_below h.f hb, blk_below h.x hb, blk_below h.y hb, blk_below h.r hb⟩
theorem D4.new (w : World) (g : Nat) (a b c d : Int) : D4 ((((w.alloc (.cells #[.func (.func g) #[] #[]] 54)).alloc (.cells #[.int .i64 a, .int .i64 b] 29)).alloc (.cells #[.int .i64 c, .int .i64 d] 29)).alloc (.cells #[.int .i64 0, .int .i64 0] 29)) w.heap.size g a b c d := by
  have h0 := blk_new w (.cells #[.func (.func g) #[] #[]] 54)
  have h1 := blk_new (w.alloc (.cells #[.func (.func g) #[] #[]] 54)) (.cells #[.int .i64 a, .int .i64 b] 29)
  have h2 := blk_new ((w.alloc (.cells #[.func (.func g) #[] #[]] 54)).alloc (.cells #[.int .i64 a, .int .i64 b] 29)) (.cells #[.int .i64 c, .int .i64 d] 29)
  have h3 := blk_new (((w.alloc (.cells #[.func (.func g) #[] #[]] 54)).alloc (.cells #[.int .i64 a, .int .i64 b] 29)).alloc (.cells #[.int .i64 c, .int .i64 d] 29)) (.cells #[.int .i64 0, .int .i64 0] 29)
  simp only [World.size_alloc] at h1 h2 h3
  exact ⟨blk_alloc (blk_alloc (blk_alloc h0 _) _) _, blk_alloc (blk_alloc h1 _) _, blk_alloc h2 _, h3⟩
theorem D4.cells {W : World} {n g : Nat} {a b c d : Int} (h : D4 W n g a b c d) : W.cell? ⟨n, 0, none⟩ = some (.func (.func g) #[] #[]) ∧ W.cell? ⟨n + 1, 0, none⟩ = some (.int .i64 a) ∧ W.cell? ⟨n + 1, 1, none⟩ = some (.int .i64 b) ∧ W.cell? ⟨n + 1 + 1, 0, none⟩ = some (.int .i64 c) ∧ W.cell? ⟨n + 1 + 1, 1, none⟩ = some (.int .i64 d) ∧ W.cell? ⟨n + 1 + 1 + 1, 0, none⟩ = some (.int .i64 0) ∧ W.cell? ⟨n + 1 + 1 + 1, 1, none⟩ = some (.int .i64 0) ∧ W.frozen? ⟨n + 1 + 1 + 1, 0, none⟩ = false ∧ W.frozen? ⟨n + 1 + 1 + 1, 1, none⟩ = false :=
  ⟨(blk_cell h.f 0).trans rfl, (blk_cell h.x 0).trans rfl, (blk_cell h.x 1).trans rfl, (blk_cell h.y 0).trans rfl, (blk_cell h.y 1).trans rfl, (blk_cell h.r 0).trans rfl, (blk_cell h.r 1).trans rfl, blk_frozen h.r 0, blk_frozen h.r 1⟩
def doI (a b c d tn td : Int) : Option (Int × Int × Int) := if (rightB a b && rightB c d) = true then ratio_Of.f tn td else some (0, 0, 10)
set_option maxHeartbeats 1000000 in
set_option maxRecDepth 100000 in
theorem deed_do_any (g : Nat) (eg : ∀ args w, (callFunc g args).run Try.prog w = .ok (.enter g args) w) (tn td a b c d r1 r2 r3 : Int) (w : World)
    (hT : ∀ W : World, Calls Try.prog g #[.agg #[.int .i64 a, .int .i64 b], .agg #[.int .i64 c, .int .i64 d]] W fun e W' => e = .returned (.tuple #[.int .i64 tn, .int .i64 td]) ∧ Below W.heap.size W W')
    (h : doI a b c d tn td = some (r1, r2, r3)) :
    Calls Try.prog 35 #[.agg #[.func (.func g) #[] #[]], .agg #[.int .i64 a, .int .i64 b], .agg #[.int .i64 c, .int .i64 d]] w fun e w' => e = .returned (.tuple #[.agg #[.int .i64 r1, .int .i64 r2], .int .i64 r3]) ∧ Below w.heap.size w w' := by
  have HB := Aside0.mk (Below.refl w.heap.size w)
  have hu := Try.underlying29
  have hu54 := Try.underlying54
  have F0 := D4.new w g a b c d
  have HT := Aside0.mk hT
  clear hT
  unfold doI at h
  by_cases h1 : rightB a b = true
  · have R := Aside0.mk (Right_eq h1)
    by_cases h2 : rightB c d = true
    · have RR := Aside0.mk (Right_eq h2)
      simp only [h1, h2, Bool.and_self, if_true] at h
      have HO := Aside0.mk (fun W => ratio_Of.calls tn td r1 r2 r3 W h)
      clear h h1 h2
      go_enter Try.func35, Try.ntmps35
      go_wp2_with (first
        | (go_at_call 22; (with_reducible refine (R.out _).mono ?_); rintro e w1 ⟨rfl, hb⟩; have F1 := F0.step hb; have HB1 := Aside0.mk ((by repeat (first | exact HB.out | apply below_alloc) : Below w.heap.size w _).trans (hb.mono (by simp; omega))); obtain ⟨q0, q1, q2, q3, q4, q5, q6, q7, q8⟩ := F1.cells; clear hb F0)
        | (go_at_call 22; (with_reducible refine (RR.out _).mono ?_); rintro e w2 ⟨rfl, hb⟩; have F2 := F1.step hb; have HB2 := Aside0.mk (HB1.out.trans (hb.mono HB1.out.size)); clear q0 q1 q2 q3 q4 q5 q6 q7 q8; obtain ⟨q0, q1, q2, q3, q4, q5, q6, q7, q8⟩ := F2.cells; clear hb F1)
        | (go_at_fn g; refine (HT.out _).mono ?_; rintro e w3 ⟨rfl, hb⟩; have F3 := F2.step hb; have HB3 := Aside0.mk (HB2.out.trans (hb.mono HB2.out.size)); clear q0 q1 q2 q3 q4 q5 q6 q7 q8; obtain ⟨q0, q1, q2, q3, q4, q5, q6, q7, q8⟩ := F3.cells; clear hb F2)
        | (go_at_call 48; (with_reducible refine (HO.out _).mono ?_); rintro e w4 ⟨rfl, hb⟩; have F4 := F3.step hb; have HB4 := Aside0.mk (HB3.out.trans (hb.mono HB3.out.size)); clear q0 q1 q2 q3 q4 q5 q6 q7 q8; obtain ⟨q0, q1, q2, q3, q4, q5, q6, q7, q8⟩ := F4.cells; clear hb F3))
      refine bodyPost_ret (results_ct rfl _ _ (w.heap.size + 1 + 1 + 1) 29 #[.int .i64 r1, .int .i64 r2] (0, 0) _ rfl (blk_put (cs := #[.int .i64 r1, .int .i64 0]) (blk_put F4.r 0 _ rfl) 1 _ rfl) Try.underlying29 rfl (by kernel_rfl)) rfl ?_
      exact ⟨rfl, below_set (below_set HB4.out (by omega)) (by omega)⟩
    · have RR := Aside0.mk (Right_eq (Bool.eq_false_iff.mpr h2))
      simp only [h2, Bool.and_false, if_false, Bool.false_eq_true] at h
      obtain ⟨rfl, rfl, rfl⟩ : (0 : Int) = r1 ∧ (0 : Int) = r2 ∧ (10 : Int) = r3 := by simpa using h
      clear h h1 h2
      go_enter Try.func35, Try.ntmps35
      go_wp2_with (first
        | (go_at_call 22; (with_reducible refine (R.out _).mono ?_); rintro e w1 ⟨rfl, hb⟩; have F1 := F0.step hb; have HB1 := Aside0.mk ((by repeat (first | exact HB.out | apply below_alloc) : Below w.heap.size w _).trans (hb.mono (by simp; omega))); obtain ⟨q0, q1, q2, q3, q4, q5, q6, q7, q8⟩ := F1.cells; clear hb F0)
        | (go_at_call 22; (with_reducible refine (RR.out _).mono ?_); rintro e w2 ⟨rfl, hb⟩; have F2 := F1.step hb; have HB2 := Aside0.mk (HB1.out.trans (hb.mono HB1.out.size)); clear q0 q1 q2 q3 q4 q5 q6 q7 q8; obtain ⟨q0, q1, q2, q3, q4, q5, q6, q7, q8⟩ := F2.cells; clear hb F1))
      refine bodyPost_ret (results_ct rfl _ _ (w.heap.size + 1 + 1 + 1) 29 #[.int .i64 0, .int .i64 0] (0, 0) _ rfl (blk_put (cs := #[.int .i64 0, .int .i64 0]) (blk_put F2.r 0 _ rfl) 1 _ rfl) Try.underlying29 rfl (by kernel_rfl)) rfl ?_
      exact ⟨rfl, below_set (below_set HB2.out (by omega)) (by omega)⟩
  · have R := Aside0.mk (Right_eq (Bool.eq_false_iff.mpr h1))
    simp only [h1, Bool.false_and, if_false, Bool.false_eq_true] at h
    obtain ⟨rfl, rfl, rfl⟩ : (0 : Int) = r1 ∧ (0 : Int) = r2 ∧ (10 : Int) = r3 := by simpa using h
    clear h h1
    go_enter Try.func35, Try.ntmps35
    go_wp2_with (go_at_call 22; (with_reducible refine (R.out _).mono ?_); rintro e w1 ⟨rfl, hb⟩; have F1 := F0.step hb; have HB1 := Aside0.mk ((by repeat (first | exact HB.out | apply below_alloc) : Below w.heap.size w _).trans (hb.mono (by simp; omega))); obtain ⟨q0, q1, q2, q3, q4, q5, q6, q7, q8⟩ := F1.cells; clear hb F0)
    refine bodyPost_ret (results_ct rfl _ _ (w.heap.size + 1 + 1 + 1) 29 #[.int .i64 0, .int .i64 0] (0, 0) _ rfl (blk_put (cs := #[.int .i64 0, .int .i64 0]) (blk_put F1.r 0 _ rfl) 1 _ rfl) Try.underlying29 rfl (by kernel_rfl)) rfl ?_
    exact ⟨rfl, below_set (below_set HB1.out (by omega)) (by omega)⟩

/-! ### ratio_Mul: function 21 -/
set_option maxRecDepth 100000 in
theorem Mul_terms (a b c d : Int) (w : World) :
    Calls Try.prog 34 #[.agg #[.int .i64 a, .int .i64 b], .agg #[.int .i64 c, .int .i64 d]] w fun e w' => e = .returned (.tuple #[.int .i64 (wrap64 (a * c)), .int .i64 (wrap64 (b * d))]) ∧ Below w.heap.size w w' := by
  have HB := Aside0.mk (Below.refl w.heap.size w)
  go_enter Try.func34, Try.ntmps34
  go_wp2
  go_quiet (fail)
  go_wp2
  go_ret2
  exact ⟨by first | rfl | (simp only [i64_w]; done) | (simp only [i64_w]; rfl), by repeat (first | exact HB.out | apply below_alloc | apply pw_below_drewN | apply below_drew1)⟩
def ratio_Mul.f (a b c d : Int) : Option (Int × Int × Int) := doI a b c d (wrap64 (a * c)) (wrap64 (b * d))
theorem ratio_Mul.new (w : World) (x y : Obj) (cs : Array Value) (t : TypeId) : (((w.alloc x).alloc y).alloc (.cells cs t)).heap[w.heap.size + 1 + 1]? = some (.cells cs t (0, 0)) := by
  have h := blk_new ((w.alloc x).alloc y) (.cells cs t)
  simpa only [World.size_alloc] using h
set_option maxHeartbeats 1000000 in
set_option maxRecDepth 100000 in
theorem ratio_Mul.calls (a b c d r1 r2 r3 : Int) (w : World) (h : ratio_Mul.f a b c d = some (r1, r2, r3)) :
    Calls Try.prog 21 #[.agg #[.int .i64 a, .int .i64 b], .agg #[.int .i64 c, .int .i64 d]] w fun e w' => e = .returned (.tuple #[.agg #[.int .i64 r1, .int .i64 r2], .int .i64 r3]) ∧ Below w.heap.size w w' := by
  have HB := Aside0.mk (Below.refl w.heap.size w)
  have hu := Try.underlying29
  have hu54 := Try.underlying54
  have HD := Aside0.mk (fun W => deed_do_any 34 (enters_of Try.func34 (by kernel_rfl) rfl) _ _ a b c d r1 r2 r3 W (fun W => Mul_terms a b c d W) h)
  have HX := Aside0.mk (ratio_Mul.new w (.cells #[.int .i64 a, .int .i64 b] 29) (.cells #[.int .i64 c, .int .i64 d] 29) #[.int .i64 0, .int .i64 0] 29)
  clear h
  go_enter Try.func21, Try.ntmps21
  go_wp2_with (go_at_call 35; (with_reducible refine (HD.out _).mono ?_); rintro e w1 ⟨rfl, hb⟩; have BX := Aside0.mk (blk_below HX.out hb); have HB1 := Aside0.mk ((by repeat (first | exact HB.out | apply below_alloc) : Below w.heap.size w _).trans (hb.mono (by simp; omega))); have q5 : w1.cell? ⟨w.heap.size + 1 + 1, 0, none⟩ = some (.int .i64 0) := (blk_cell BX.out 0).trans rfl; have q6 : w1.cell? ⟨w.heap.size + 1 + 1, 1, none⟩ = some (.int .i64 0) := (blk_cell BX.out 1).trans rfl; have q7 := blk_frozen BX.out 0; have q8 := blk_frozen BX.out 1; clear hb)
  refine bodyPost_ret (results_ct rfl _ _ (w.heap.size + 1 + 1) 29 #[.int .i64 r1, .int .i64 r2] (0, 0) _ rfl (blk_put (cs := #[.int .i64 r1, .int .i64 0]) (blk_put BX.out 0 _ rfl) 1 _ rfl) Try.underlying29 rfl (by kernel_rfl)) rfl ?_
  exact ⟨rfl, below_set (below_set HB1.out (by omega)) (by omega)⟩

end Go.Proofs.Ytiifeheejapegaa.Q
