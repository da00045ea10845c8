-- Written by a program of this session (myprint.py), function by function.
import Derived.Test.YtbncdlnnjhadgaaQ0
import Derived.Test.YtbncdlnnjhadgaaQ2
import Derived.Test.YtbncdlnnjhadgaaQ3
import Derived.Test.YtbncdlnnjhadgaaQ4
import Derived.Test.YtbncdlnnjhadgaaQ5
import Derived.Test.YtbncdlnnjhadgaaQ6
import Derived.Test.YtbncdlnnjhadgaaQ9
namespace Go.Proofs.Ytbncdlnnjhadgaa.Q
open Go.RowKit Go.Proofs.YtbncdlnnjhadgaaW.PrintWords Go.Proofs.YtbncdlnnjhadgaaW.PrintLast Go.Proofs.YtbncdlnnjhadgaaW.PrintMore
attribute [local go_sem] max2_int min2_int max_two min_two max_three min_three max_four min_four   -- for this text's walks alone
set_option linter.unusedVariables false
set_option linter.unusedSimpArgs false

/-! ### partitalaw05_MeterWeights: function 4 -/
mutual
def partitalaw05_MeterWeights.l0 : Nat → Int → Int → Bool → List (S26) → Int → Int → Int → Int → Int → List Int → Option (Bool)
 | 0, _, _, _, _, _, _, _, _, _, _ => none
 | k + 1, x2, x3, x9, x11, x12, x13, x14, x277000, x277001, x277002 => if x14 < x277000 then ((ratio_Of.f x14 x277001).bind fun bt286 => ((meter_Weight.f k x277000 x277001 x277002 bt286.1 bt286.2.1).bind fun bt290 => (if bt286.2.2 = 0 then (if bt290.2 = 0 then (if ((bt290.1 == 3) != (x14 == 0)) = true then (partitalaw05_MeterWeights.j1 k x2 x3 x9 x11 x12 x13 x14 bt290.1 true x277000 x277001 x277002) else (if bt290.1 < 1 then (partitalaw05_MeterWeights.j1 k x2 x3 x9 x11 x12 x13 x14 bt290.1 true x277000 x277001 x277002) else (partitalaw05_MeterWeights.j1 k x2 x3 x9 x11 x12 x13 x14 bt290.1 (decide (bt290.1 > 3)) x277000 x277001 x277002))) else (partitalaw05_MeterWeights.j1 k x2 x3 x9 x11 x12 x13 x14 bt290.1 true x277000 x277001 x277002)) else (partitalaw05_MeterWeights.j1 k x2 x3 x9 x11 x12 x13 x14 bt290.1 true x277000 x277001 x277002)))) else ((partitalaw05_place.f k x277000 x277001 x277002 x2 x3).bind fun bt281 => ((meter_Weight.f k x277000 x277001 x277002 bt281.1 bt281.2).bind fun bt284 => (if x9 = true then (if x12 = 0 then (if x13 = (x11.length : Int) then (if bt284.2 = 0 then (if bt281.2 = 0 then (none) else (some ((bt284.1 == 0) == ((Int.tmod (wrap64 (bt281.1 * x277001)) bt281.2) != 0)))) else none) else none) else none) else none)))
def partitalaw05_MeterWeights.j1 : Nat → Int → Int → Bool → List (S26) → Int → Int → Int → Int → Bool → Int → Int → List Int → Option (Bool)
 | 0, _, _, _, _, _, _, _, _, _, _, _, _ => none
 | k + 1, x2, x3, x9, x11, x12, x13, x14, x17, x70, x277000, x277001, x277002 => if x70 = true then none else (if x17 > 1 then (partitalaw05_MeterWeights.l0 k x2 x3 x9 x11 x12 (wrap64 (x13 + 1)) (wrap64 (x14 + 1)) x277000 x277001 x277002) else (partitalaw05_MeterWeights.l0 k x2 x3 x9 x11 x12 x13 (wrap64 (x14 + 1)) x277000 x277001 x277002))
end
def partitalaw05_MeterWeights.f (k : Nat) (a0_0 : Int) (a0_1 : Int) (l0_2 : List Int) (a1 : Bool) (a2 : Int) (a3 : Int) : Option (Bool) := (partitalaw05_awake.f k).bind fun t270 => ((partitalaw05_Meter.f k a0_0 a0_1 l0_2 a1).bind fun bt271 => ((meter_Beats.f k bt271.1 bt271.2.1 bt271.2.2).bind fun bt277 => (partitalaw05_MeterWeights.l0 k a2 a3 t270 bt277.1 bt277.2 0 0 bt271.1 bt271.2.1 bt271.2.2)))
theorem partitalaw05_MeterWeights.mono_l : ∀ k, (∀ y0 y1 y2 y3 y4 y5 y6 y7 y8 y9, LeO (partitalaw05_MeterWeights.l0 k y0 y1 y2 y3 y4 y5 y6 y7 y8 y9) (partitalaw05_MeterWeights.l0 (k + 1) y0 y1 y2 y3 y4 y5 y6 y7 y8 y9)) ∧ (∀ y0 y1 y2 y3 y4 y5 y6 y7 y8 y9 y10 y11, LeO (partitalaw05_MeterWeights.j1 k y0 y1 y2 y3 y4 y5 y6 y7 y8 y9 y10 y11) (partitalaw05_MeterWeights.j1 (k + 1) y0 y1 y2 y3 y4 y5 y6 y7 y8 y9 y10 y11))
 | 0 => ⟨fun _ _ _ _ _ _ _ _ _ _ r h => by simp [partitalaw05_MeterWeights.l0] at h, fun _ _ _ _ _ _ _ _ _ _ _ _ r h => by simp [partitalaw05_MeterWeights.j1] at h⟩
 | k + 1 => by
  obtain ⟨ih0, ih1⟩ := partitalaw05_MeterWeights.mono_l k
  refine ⟨?_, ?_⟩
  · intro y0 y1 y2 y3 y4 y5 y6 y7 y8 y9
    unfold partitalaw05_MeterWeights.l0
    repeat' first
    | (with_reducible exact ih0 _ _ _ _ _ _ _ _ _ _)
    | (with_reducible exact ih1 _ _ _ _ _ _ _ _ _ _ _ _)
    | (with_reducible exact meter_Beats.mono _ _ _ _)
    | (with_reducible exact meter_Weight.mono _ _ _ _ _ _)
    | (with_reducible exact partitalaw05_Meter.mono _ _ _ _ _)
    | (with_reducible exact partitalaw05_awake.mono _)
    | (with_reducible exact partitalaw05_place.mono _ _ _ _ _ _)
    | (with_reducible exact LeO.refl _)
    | (with_reducible exact LeO.none _)
    | (with_reducible refine LeO.ite ?_ ?_)
    | (with_reducible refine LeO.bind ?_ (fun _ => ?_))
    | exact ih0 _ _ _ _ _ _ _ _ _ _
    | exact ih1 _ _ _ _ _ _ _ _ _ _ _ _
    | exact meter_Beats.mono _ _ _ _
    | exact meter_Weight.mono _ _ _ _ _ _
    | exact partitalaw05_Meter.mono _ _ _ _ _
    | exact partitalaw05_awake.mono _
    | exact partitalaw05_place.mono _ _ _ _ _ _
    | exact LeO.none _
    | refine LeO.ite ?_ ?_
    | refine LeO.bind ?_ (fun _ => ?_)
  · intro y0 y1 y2 y3 y4 y5 y6 y7 y8 y9 y10 y11
    unfold partitalaw05_MeterWeights.j1
    repeat' first
    | (with_reducible exact ih0 _ _ _ _ _ _ _ _ _ _)
    | (with_reducible exact ih1 _ _ _ _ _ _ _ _ _ _ _ _)
    | (with_reducible exact meter_Beats.mono _ _ _ _)
    | (with_reducible exact meter_Weight.mono _ _ _ _ _ _)
    | (with_reducible exact partitalaw05_Meter.mono _ _ _ _ _)
    | (with_reducible exact partitalaw05_awake.mono _)
    | (with_reducible exact partitalaw05_place.mono _ _ _ _ _ _)
    | (with_reducible exact LeO.refl _)
    | (with_reducible exact LeO.none _)
    | (with_reducible refine LeO.ite ?_ ?_)
    | (with_reducible refine LeO.bind ?_ (fun _ => ?_))
    | exact ih0 _ _ _ _ _ _ _ _ _ _
    | exact ih1 _ _ _ _ _ _ _ _ _ _ _ _
    | exact meter_Beats.mono _ _ _ _
    | exact meter_Weight.mono _ _ _ _ _ _
    | exact partitalaw05_Meter.mono _ _ _ _ _
    | exact partitalaw05_awake.mono _
    | exact partitalaw05_place.mono _ _ _ _ _ _
    | exact LeO.none _
    | refine LeO.ite ?_ ?_
    | refine LeO.bind ?_ (fun _ => ?_)
theorem partitalaw05_MeterWeights.mono : ∀ a0 a1 a2 a3 a4 a5 k, LeO (partitalaw05_MeterWeights.f k a0 a1 a2 a3 a4 a5) (partitalaw05_MeterWeights.f (k + 1) a0 a1 a2 a3 a4 a5) := by
 intro a0 a1 a2 a3 a4 a5 k
 obtain ⟨ih0, ih1⟩ := partitalaw05_MeterWeights.mono_l k
 unfold partitalaw05_MeterWeights.f
 repeat' first
  | (with_reducible exact ih0 _ _ _ _ _ _ _ _ _ _)
  | (with_reducible exact ih1 _ _ _ _ _ _ _ _ _ _ _ _)
  | (with_reducible exact meter_Beats.mono _ _ _ _)
  | (with_reducible exact meter_Weight.mono _ _ _ _ _ _)
  | (with_reducible exact partitalaw05_Meter.mono _ _ _ _ _)
  | (with_reducible exact partitalaw05_awake.mono _)
  | (with_reducible exact partitalaw05_place.mono _ _ _ _ _ _)
  | (with_reducible exact LeO.refl _)
  | (with_reducible exact LeO.none _)
  | (with_reducible refine LeO.ite ?_ ?_)
  | (with_reducible refine LeO.bind ?_ (fun _ => ?_))
  | exact ih0 _ _ _ _ _ _ _ _ _ _
  | exact ih1 _ _ _ _ _ _ _ _ _ _ _ _
  | exact meter_Beats.mono _ _ _ _
  | exact meter_Weight.mono _ _ _ _ _ _
  | exact partitalaw05_Meter.mono _ _ _ _ _
  | exact partitalaw05_awake.mono _
  | exact partitalaw05_place.mono _ _ _ _ _ _
  | exact LeO.none _
  | refine LeO.ite ?_ ?_
  | refine LeO.bind ?_ (fun _ => ?_)
set_option maxHeartbeats 8000000 in
set_option maxRecDepth 100000 in
theorem partitalaw05_MeterWeights.calls (k : Nat) (a0_0 : Int) (a0_1 : Int) (A0_2 : Option Addr) (c0_2 : Nat) (l0_2 : List Int) (a1 : Bool) (a2 : Int) (a3 : Int) (r : Bool) (w : World) (hr0_2 : Kd.C (Kd.int .i64) w A0_2 l0_2.length l0_2) (hc0_2 : l0_2.length ≤ c0_2) (h : partitalaw05_MeterWeights.f k a0_0 a0_1 l0_2 a1 a2 a3 = some r) :
 Calls Try.prog 4 #[.agg #[.int .i64 a0_0, .int .i64 a0_1, .slice A0_2 l0_2.length c0_2], .bool a1, .int .i64 a2, .int .i64 a3] w fun e w' => e = .returned (.bool r) ∧ Below w.heap.size w w' := by
 have hu24 := Try.underlying24
 have hu26 := Try.underlying26
 have HR0_2 := Aside0.mk hr0_2
 have HC0_2 := Aside0.mk hc0_2
 clear hr0_2 hc0_2
 have HB := Aside0.mk (Below.refl w.heap.size w)
 have H : ((partitalaw05_awake.f k).bind fun t270 => ((partitalaw05_Meter.f k a0_0 a0_1 l0_2 a1).bind fun bt271 => ((meter_Beats.f k bt271.1 bt271.2.1 bt271.2.2).bind fun bt277 => (partitalaw05_MeterWeights.l0 k a2 a3 t270 bt277.1 bt277.2 0 0 bt271.1 bt271.2.1 bt271.2.2)))) = some r := h
 clear h
 replace H := Option.bind_eq_some_iff.mp H
 obtain ⟨t270, A50, H⟩ := H
 replace H : ((partitalaw05_Meter.f k a0_0 a0_1 l0_2 a1).bind fun bt271 => ((meter_Beats.f k bt271.1 bt271.2.1 bt271.2.2).bind fun bt277 => (partitalaw05_MeterWeights.l0 k a2 a3 t270 bt277.1 bt277.2 0 0 bt271.1 bt271.2.1 bt271.2.2))) = some r := H
 have A5 := Aside0.mk A50
 clear A50
 replace H := Option.bind_eq_some_iff.mp H
 obtain ⟨⟨t271, t272, t273⟩, A60, H⟩ := H
 replace H : ((meter_Beats.f k t271 t272 t273).bind fun bt277 => (partitalaw05_MeterWeights.l0 k a2 a3 t270 bt277.1 bt277.2 0 0 t271 t272 t273)) = some r := H
 have A6 := Aside0.mk A60
 clear A60
 replace H := Option.bind_eq_some_iff.mp H
 obtain ⟨⟨t277, t280⟩, A70, H⟩ := H
 replace H : (partitalaw05_MeterWeights.l0 k a2 a3 t270 t277 t280 0 0 t271 t272 t273) = some r := H
 have A7 := Aside0.mk A70
 clear A70
 have H' := Aside0.mk H
 clear H
 go_enter Try.func4, Try.ntmps4
 go_wp2_with (first | ((with_reducible refine gate_dst (N := 4) rfl ?_); (try (refine gate_guard (by rfl) ?_; dsimp only)); refine box_event ?hg (N := 4) ?hd (cs := #[.int .i64 a0_0, .int .i64 a0_1, .slice A0_2 l0_2.length c0_2]) (t := 24) ?hr ?_; (case hd => rfl); (case hg => rfl); (case hr => first | (go_simp; done) | (go_simp; rfl)); intro gb269 hg w8 hbox hb; have n0_ := Aside0.mk (below_step (by repeat (first | (with_reducible first | exact HB.out | apply below_alloc | apply pw_below_drewN | apply below_drew1) | exact HB.out)) hb); have n1_ := Aside0.mk (hbox); have n2_ := Aside0.mk ((by rw [hg]; exact (below_size (by repeat (first | (with_reducible first | exact HB.out | apply below_alloc | apply pw_below_drewN | apply below_drew1) | exact HB.out))) : w.heap.size ≤ gb269)); have n3_ := Aside0.mk ((by rw [hg]; exact (below_size (by repeat (first | (with_reducible first | exact HB.out | apply below_alloc | apply pw_below_drewN | apply below_drew1) | exact HB.out))) : w.heap.size ≤ gb269)); clear HB; have HB := n0_; have BK269 := n1_; have GW269 := n2_; have GE269 := n3_; clear n0_ n1_ n2_ n3_; clear hb hbox hg) | ((with_reducible refine gate_callee (f := 10) rfl ?_); refine goesL_ (some 22) rfl rfl Try.func10 (by kernel_rfl) rfl #[] rfl (by (try simp only [List.map_toArray, List.map_cons, List.map_nil]); first | done | rfl | (simp only [List.length_drop, List.length_take]; rfl)) ?_; (with_reducible refine (partitalaw05_awake.calls k  t270 _ A5.out).mono ?_); rintro e w9 ⟨rfl, hb⟩; refine ⟨_, rfl, ?_⟩; have n0_ := Aside0.mk (blk_below (qB BK269.out) hb); have n1_ := Aside0.mk (below_step (by repeat (first | (with_reducible first | exact HB.out | apply below_alloc | apply pw_below_drewN | apply below_drew1 | refine below_set ?_ GE269.out) | exact HB.out)) hb); clear BK269; clear HB; have BK269 := n0_; have HB := n1_; clear n0_ n1_; (try clear hb); (try clear hb2); (try clear hk); (try clear hi); have hcz10_0 : w9.cell? ⟨gb269, 0, none⟩ = some (.int .i64 a0_0) := (blk_cell BK269.out 0).trans rfl; have hcz10_1 : w9.cell? ⟨gb269, 1, none⟩ = some (.int .i64 a0_1) := (blk_cell BK269.out 1).trans rfl; have hcz10_2 : w9.cell? ⟨gb269, 2, none⟩ = some (.slice A0_2 l0_2.length c0_2) := (blk_cell BK269.out 2).trans rfl; have hfz10_0 := blk_frozen BK269.out 0; have hfz10_1 := blk_frozen BK269.out 1; have hfz10_2 := blk_frozen BK269.out 2) | ((with_reducible refine gate_callee (f := 11) rfl ?_); refine goesL_ (some 25) rfl rfl Try.func11 (by kernel_rfl) rfl #[.agg #[.int .i64 a0_0, .int .i64 a0_1, .slice A0_2 l0_2.length c0_2], .bool a1] rfl (by (try simp only [List.map_toArray, List.map_cons, List.map_nil]); first | done | rfl | (simp only [List.length_drop, List.length_take]; rfl)) ?_; (with_reducible refine (partitalaw05_Meter.calls k a0_0 a0_1 _ _ l0_2 a1 t271 t272 t273 _ ?side1 ?side2 A6.out).mono ?_); (case side1 => repeat (first | exact (Kd.C_below HR0_2.out HB.out) | (with_reducible refine Kd.C_alloc ?_ _) | (with_reducible refine Kd.C_drewN ?_ _) | (with_reducible refine Kd.C_drew ?_))); (case side2 => exact HC0_2.out); rintro e w11 ⟨v274, rfl, ho0, hb⟩; refine ⟨_, rfl, ?_⟩; have n0_ := Aside0.mk (Kd.R_lower ho0 (below_size (by repeat (first | (with_reducible first | exact HB.out | apply below_alloc | apply pw_below_drewN | apply below_drew1 | refine below_set ?_ GE269.out) | exact HB.out)))); have n1_ := Aside0.mk (blk_below (qB BK269.out) hb); have n2_ := Aside0.mk (below_step (by repeat (first | (with_reducible first | exact HB.out | apply below_alloc | apply pw_below_drewN | apply below_drew1 | refine below_set ?_ GE269.out) | exact HB.out)) hb); clear BK269; clear HB; have HO275 := n0_; have BK269 := n1_; have HB := n2_; clear n0_ n1_ n2_; (try clear hb); (try clear hb2); (try clear hk); (try clear hi); (try clear ho0)) | ((with_reducible refine gate_dst (N := 10) rfl ?_); (try (refine gate_guard (by rfl) ?_; dsimp only)); refine box_event ?hg (N := 10) ?hd (cs := #[.int .i64 0, .int .i64 0, .slice none 0 0]) (t := 24) ?hr ?_; (case hd => rfl); (case hg => rfl); (case hr => first | (go_simp; done) | (go_simp; rfl)); intro gb276 hg w12 hbox hb; have n0_ := Aside0.mk (Kd.R_below (qR HO275.out) hb); have n1_ := Aside0.mk (blk_below (qB BK269.out) hb); have n2_ := Aside0.mk (below_step (by repeat (first | (with_reducible first | exact HB.out | apply below_alloc | apply pw_below_drewN | apply below_drew1 | refine below_set ?_ GE269.out) | exact HB.out)) hb); have n3_ := Aside0.mk (hbox); have n4_ := Aside0.mk ((by rw [hg]; exact (below_size (by repeat (first | (with_reducible first | exact HB.out | apply below_alloc | apply pw_below_drewN | apply below_drew1 | refine below_set ?_ GE269.out) | exact HB.out))) : w.heap.size ≤ gb276)); have n5_ := Aside0.mk ((by rw [hg]; exact (below_size (by repeat (first | (with_reducible first | exact HB.out | apply below_alloc | apply pw_below_drewN | apply below_drew1 | refine below_set ?_ GE269.out) | exact HB.out))) : w.heap.size ≤ gb276)); have n6_ := Aside0.mk ((by rw [hg]; exact Nat.ne_of_lt (blk_lt (qB BK269.out)) : gb269 ≠ gb276)); have n7_ := Aside0.mk ((by rw [hg]; exact Nat.ne_of_gt (blk_lt (qB BK269.out)) : gb276 ≠ gb269)); clear HO275; clear BK269; clear HB; have HO275 := n0_; have BK269 := n1_; have HB := n2_; have BK276 := n3_; have GW276 := n4_; have GE276 := n5_; have NB269_276 := n6_; have NB276_269 := n7_; clear n0_ n1_ n2_ n3_ n4_ n5_ n6_ n7_; clear hb hbox hg; have hnb13 := NB276_269.out; have hnc13 := NB269_276.out; have hcz14_0 : w12.cell? ⟨gb276, 0, none⟩ = some (.int .i64 0) := (blk_cell BK276.out 0).trans rfl; have hcz14_1 : w12.cell? ⟨gb276, 1, none⟩ = some (.int .i64 0) := (blk_cell BK276.out 1).trans rfl; have hcz14_2 : w12.cell? ⟨gb276, 2, none⟩ = some (.slice none 0 0) := (blk_cell BK276.out 2).trans rfl; have hfz14_0 := blk_frozen BK276.out 0; have hfz14_1 := blk_frozen BK276.out 1; have hfz14_2 := blk_frozen BK276.out 2; obtain ⟨Ao15, co15, eo15⟩ := Kd.R_slice HO275.out; subst eo15) | ((with_reducible refine gate_callee (f := 14) rfl ?_); refine goesL_ (some 28) rfl rfl Try.func14 (by kernel_rfl) rfl #[.agg #[.int .i64 t271, .int .i64 t272, .slice Ao15 t273.length co15]] rfl (by (try simp only [List.map_toArray, List.map_cons, List.map_nil]); first | done | rfl | (simp only [List.length_drop, List.length_take]; rfl)) ?_; (with_reducible refine (meter_Beats.calls k t271 t272 _ _ t273 t277 t280 _ ?side1 ?side2 A7.out).mono ?_); (case side1 => refine (Kd.R_reads' (e := 3) (base := w.heap.size) (ok := fun k_ => True) (n := t273.length) (c := co15) ?_).2.2; exact (qR ((Kd.R_mono (Kd.R_far (p := ⟨gb276, 2, none⟩) (Kd.R_far (p := ⟨gb276, 1, none⟩) (Kd.R_far (p := ⟨gb276, 0, none⟩) (Kd.R_types HO275.out BK276.out (by decide)) (fun _ hk => hk.2) (.int .i64 t271)) (fun _ hk => hk.2) (.int .i64 t272)) (fun _ hk => hk.2) (.slice Ao15 t273.length co15)) (fun _ h_ => h_.1))))); (case side2 => exact (Kd.R_reads' HO275.out).2.1); rintro e w16 ⟨v278, rfl, ho0, hb⟩; refine ⟨_, rfl, ?_⟩; have n0_ := Aside0.mk (Kd.R_below (qR ((Kd.R_mono (Kd.R_far (p := ⟨gb276, 2, none⟩) (Kd.R_far (p := ⟨gb276, 1, none⟩) (Kd.R_far (p := ⟨gb276, 0, none⟩) (Kd.R_types HO275.out BK276.out (by decide)) (fun _ hk => hk.2) (.int .i64 t271)) (fun _ hk => hk.2) (.int .i64 t272)) (fun _ hk => hk.2) (.slice Ao15 t273.length co15)) (fun _ h_ => h_.1)))) hb); have n1_ := Aside0.mk (Kd.R_lower ho0 (below_size (by repeat (first | (with_reducible first | exact HB.out | apply below_alloc | apply pw_below_drewN | apply below_drew1 | refine below_set ?_ (Aside0.out (by assumption))) | exact HB.out)))); have n2_ := Aside0.mk (blk_below (g := gb269) (o := .cells #[.int .i64 a0_0, .int .i64 a0_1, .slice A0_2 l0_2.length c0_2] 24 (0, 0)) (by (with_reducible repeat (first | refine blk_drewN ?_ _ | refine blk_drew ?_ | refine blk_alloc ?_ _)); refine blk_far ?_ NB269_276.out _; (with_reducible repeat (first | refine blk_drewN ?_ _ | refine blk_drew ?_ | refine blk_alloc ?_ _)); refine blk_far ?_ NB269_276.out _; (with_reducible repeat (first | refine blk_drewN ?_ _ | refine blk_drew ?_ | refine blk_alloc ?_ _)); refine blk_far ?_ NB269_276.out _; (with_reducible repeat (first | refine blk_drewN ?_ _ | refine blk_drew ?_ | refine blk_alloc ?_ _)); exact BK269.out) hb); have n3_ := Aside0.mk (blk_below (g := gb276) (o := .cells #[.int .i64 t271, .int .i64 t272, .slice Ao15 t273.length co15] 24 (0, 0)) (by (with_reducible repeat (first | refine blk_drewN ?_ _ | refine blk_drew ?_ | refine blk_alloc ?_ _)); refine blk_put (cs := #[.int .i64 t271, .int .i64 t272, .slice none 0 0]) ?_ 2 _ rfl; (with_reducible repeat (first | refine blk_drewN ?_ _ | refine blk_drew ?_ | refine blk_alloc ?_ _)); refine blk_put (cs := #[.int .i64 t271, .int .i64 0, .slice none 0 0]) ?_ 1 _ rfl; (with_reducible repeat (first | refine blk_drewN ?_ _ | refine blk_drew ?_ | refine blk_alloc ?_ _)); refine blk_put (cs := #[.int .i64 0, .int .i64 0, .slice none 0 0]) ?_ 0 _ rfl; (with_reducible repeat (first | refine blk_drewN ?_ _ | refine blk_drew ?_ | refine blk_alloc ?_ _)); exact BK276.out) hb); have n4_ := Aside0.mk (below_step (by repeat (first | (with_reducible first | exact HB.out | apply below_alloc | apply pw_below_drewN | apply below_drew1 | refine below_set ?_ (Aside0.out (by assumption))) | exact HB.out)) hb); clear HO275; clear BK269; clear BK276; clear HB; have HO275 := n0_; have HO279 := n1_; have BK269 := n2_; have BK276 := n3_; have HB := n4_; clear n0_ n1_ n2_ n3_ n4_; (try clear hb); (try clear hb2); (try clear hk); (try clear hi); (try clear ho0)))
 go_loopg [13, 14] k (fun kq v13 v14 w' => ∃ (x13_1 : Int) (x14_1 : Int), v13 = .int .i64 x13_1 ∧ v14 = .int .i64 x14_1 ∧ Aside0 (partitalaw05_MeterWeights.l0 kq a2 a3 t270 t277 t280 x13_1 x14_1 t271 t272 t273 = some r) ∧ Aside0 (kq ≤ k) ∧ Aside0 (Kd.R k26 26 w' w.heap.size (fun _ => True) v278 t277) ∧ Aside0 (Kd.R (Kd.int .i64) 3 w' w.heap.size (fun _ => True) (.slice Ao15 t273.length co15) t273) ∧ Aside0 (w'.heap[gb269]? = some (.cells #[.int .i64 a0_0, .int .i64 a0_1, (.slice A0_2 l0_2.length c0_2)] 24 (0, 0))) ∧ Aside0 (w'.heap[gb276]? = some (.cells #[.int .i64 t271, .int .i64 t272, (.slice Ao15 t273.length co15)] 24 (0, 0))) ∧ Aside0 (Below w.heap.size w w'))
 case atStart => exact ⟨(0), (0), (by first | rfl | (simp; done) | (simp [*]; done) | (simp [wrap64]; done)), (by first | rfl | (simp; done) | (simp [*]; done) | (simp [wrap64]; done)), H', ⟨Nat.le_refl _⟩, ⟨by (with_reducible repeat (first | apply Kd.R_alloc | apply Kd.R_drewN | apply Kd.R_drew)); exact HO279.out⟩, ⟨by (with_reducible repeat (first | apply Kd.R_alloc | apply Kd.R_drewN | apply Kd.R_drew)); exact HO275.out⟩, ⟨by (with_reducible repeat (first | refine blk_drewN ?_ _ | refine blk_drew ?_ | refine blk_alloc ?_ _)); exact BK269.out⟩, ⟨by (with_reducible repeat (first | refine blk_drewN ?_ _ | refine blk_drew ?_ | refine blk_alloc ?_ _)); exact BK276.out⟩, ⟨by repeat (first | (with_reducible first | exact HB.out | apply below_alloc | apply pw_below_drewN | apply below_drew1 | refine below_set ?_ (Aside0.out (by assumption))) | exact HB.out)⟩⟩
 case round =>
  clear H'
  try clear c1
  try clear p2
  try clear c4
  try clear c10
  try clear c11
  try clear c13
  try clear c14
  try clear hcz10_0
  try clear hcz10_1
  try clear hcz10_2
  try clear hcz14_0
  try clear hcz14_1
  try clear hcz14_2
  try clear hfz10_0
  try clear hfz10_1
  try clear hfz10_2
  try clear hfz14_0
  try clear hfz14_1
  try clear hfz14_2
  obtain ⟨x13_1, x14_1, rfl, rfl, HA, HK1, HO_11, HO_277002, BK269, BK276, HB⟩ := hrel
  cases gk with
  | zero => exact absurd HA.out (by simp [partitalaw05_MeterWeights.l0])
  | succ k1 =>
   have H := HA.out
   clear HA
   simp only [partitalaw05_MeterWeights.l0] at H
   by_cases c17 : x14_1 < t271
   · rw [if_pos c17] at H
     have c17b0 : decide (x14_1 < t271) = true := decide_eq_true c17
     clear c17
     replace H := Option.bind_eq_some_iff.mp H
     obtain ⟨⟨t286, t287, t288⟩, A180, H⟩ := H
     replace H : ((meter_Weight.f k1 t271 t272 t273 t286 t287).bind fun bt290 => (if t288 = 0 then (if bt290.2 = 0 then (if ((bt290.1 == 3) != (x14_1 == 0)) = true then (partitalaw05_MeterWeights.j1 k1 a2 a3 t270 t277 t280 x13_1 x14_1 bt290.1 true t271 t272 t273) else (if bt290.1 < 1 then (partitalaw05_MeterWeights.j1 k1 a2 a3 t270 t277 t280 x13_1 x14_1 bt290.1 true t271 t272 t273) else (partitalaw05_MeterWeights.j1 k1 a2 a3 t270 t277 t280 x13_1 x14_1 bt290.1 (decide (bt290.1 > 3)) t271 t272 t273))) else (partitalaw05_MeterWeights.j1 k1 a2 a3 t270 t277 t280 x13_1 x14_1 bt290.1 true t271 t272 t273)) else (partitalaw05_MeterWeights.j1 k1 a2 a3 t270 t277 t280 x13_1 x14_1 bt290.1 true t271 t272 t273))) = some r := H
     have A18 := Aside0.mk A180
     clear A180
     replace H := Option.bind_eq_some_iff.mp H
     obtain ⟨⟨t290, t291⟩, A190, H⟩ := H
     replace H : (if t288 = 0 then (if t291 = 0 then (if ((t290 == 3) != (x14_1 == 0)) = true then (partitalaw05_MeterWeights.j1 k1 a2 a3 t270 t277 t280 x13_1 x14_1 t290 true t271 t272 t273) else (if t290 < 1 then (partitalaw05_MeterWeights.j1 k1 a2 a3 t270 t277 t280 x13_1 x14_1 t290 true t271 t272 t273) else (partitalaw05_MeterWeights.j1 k1 a2 a3 t270 t277 t280 x13_1 x14_1 t290 (decide (t290 > 3)) t271 t272 t273))) else (partitalaw05_MeterWeights.j1 k1 a2 a3 t270 t277 t280 x13_1 x14_1 t290 true t271 t272 t273)) else (partitalaw05_MeterWeights.j1 k1 a2 a3 t270 t277 t280 x13_1 x14_1 t290 true t271 t272 t273)) = some r := H
     have A19 := Aside0.mk A190
     clear A190
     have HC20 := Aside0.mk H
     clear H
     have hnb21 := NB276_269.out
     have hnc21 := NB269_276.out
     have hcz22_0 : wr.cell? ⟨gb276, 0, none⟩ = some (.int .i64 t271) := (blk_cell BK276.out 0).trans rfl
     have hcz22_1 : wr.cell? ⟨gb276, 1, none⟩ = some (.int .i64 t272) := (blk_cell BK276.out 1).trans rfl
     have hcz22_2 : wr.cell? ⟨gb276, 2, none⟩ = some (.slice Ao15 t273.length co15) := (blk_cell BK276.out 2).trans rfl
     have hfz22_0 := blk_frozen BK276.out 0
     have hfz22_1 := blk_frozen BK276.out 1
     have hfz22_2 := blk_frozen BK276.out 2
     go_upto_region 10 with (first | ((with_reducible refine gate_callee (f := 26) rfl ?_); refine goesL_ (some 41) rfl rfl Try.func26 (by kernel_rfl) rfl #[.int .i64 x14_1, .int .i64 t272] rfl (by (try simp only [List.map_toArray, List.map_cons, List.map_nil]); first | done | rfl | (simp only [List.length_drop, List.length_take]; rfl)) ?_; (with_reducible refine (ratio_Of.calls x14_1 t272 t286 t287 t288 _ A18.out).mono ?_); rintro e w23 ⟨rfl, hb⟩; refine ⟨_, rfl, ?_⟩; have n0_ := Aside0.mk (Kd.R_below (qR HO_11.out) hb); have n1_ := Aside0.mk (Kd.R_below (qR HO_277002.out) hb); have n2_ := Aside0.mk (blk_below (qB BK269.out) hb); have n3_ := Aside0.mk (blk_below (qB BK276.out) hb); have n4_ := Aside0.mk (below_step (by repeat (first | (with_reducible first | exact HB.out | apply below_alloc | apply pw_below_drewN | apply below_drew1 | refine below_set ?_ (Aside0.out (by assumption))) | exact HB.out)) hb); clear HO_11; clear HO_277002; clear BK269; clear BK276; clear HB; have HO_11 := n0_; have HO_277002 := n1_; have BK269 := n2_; have BK276 := n3_; have HB := n4_; clear n0_ n1_ n2_ n3_ n4_; (try clear hb); (try clear hb2); (try clear hk); (try clear hi)) | ((with_reducible refine gate_dst (N := 15) rfl ?_); (try (refine gate_guard (by rfl) ?_; dsimp only)); refine box_event ?hg (N := 15) ?hd (cs := #[.int .i64 0, .int .i64 0]) (t := 26) ?hr ?_; (case hd => rfl); (case hg => rfl); (case hr => first | (go_simp; done) | (go_simp; rfl)); intro gb289 hg w24 hbox hb; have n0_ := Aside0.mk (Kd.R_below (Kd.R_elderB (qR HO_11.out) gb289 (Nat.le_of_eq hg.symm)) hb); have n1_ := Aside0.mk (Kd.R_below (qR HO_277002.out) hb); have n2_ := Aside0.mk (blk_below (qB BK269.out) hb); have n3_ := Aside0.mk (blk_below (qB BK276.out) hb); have n4_ := Aside0.mk (below_step (by repeat (first | (with_reducible first | exact HB.out | apply below_alloc | apply pw_below_drewN | apply below_drew1 | refine below_set ?_ (Aside0.out (by assumption))) | exact HB.out)) hb); have n5_ := Aside0.mk (hbox); have n6_ := Aside0.mk ((by rw [hg]; exact (below_size (by repeat (first | (with_reducible first | exact HB.out | apply below_alloc | apply pw_below_drewN | apply below_drew1 | refine below_set ?_ (Aside0.out (by assumption))) | exact HB.out))) : w.heap.size ≤ gb289)); have n7_ := Aside0.mk ((by rw [hg]; exact (below_size (by repeat (first | (with_reducible first | exact HB.out | apply below_alloc | apply pw_below_drewN | apply below_drew1 | refine below_set ?_ (Aside0.out (by assumption))) | exact HB.out))) : w.heap.size ≤ gb289)); have n8_ := Aside0.mk ((by rw [hg]; exact Nat.ne_of_lt (blk_lt (qB BK269.out)) : gb269 ≠ gb289)); have n9_ := Aside0.mk ((by rw [hg]; exact Nat.ne_of_gt (blk_lt (qB BK269.out)) : gb289 ≠ gb269)); have n10_ := Aside0.mk ((by rw [hg]; exact Nat.ne_of_lt (blk_lt (qB BK276.out)) : gb276 ≠ gb289)); have n11_ := Aside0.mk ((by rw [hg]; exact Nat.ne_of_gt (blk_lt (qB BK276.out)) : gb289 ≠ gb276)); clear HO_11; clear HO_277002; clear BK269; clear BK276; clear HB; have HO_11 := n0_; have HO_277002 := n1_; have BK269 := n2_; have BK276 := n3_; have HB := n4_; have BK289 := n5_; have GW289 := n6_; have GE289 := n7_; have NB269_289 := n8_; have NB289_269 := n9_; have NB276_289 := n10_; have NB289_276 := n11_; clear n0_ n1_ n2_ n3_ n4_ n5_ n6_ n7_ n8_ n9_ n10_ n11_; clear hb hbox hg; have hnb25 := NB289_269.out; have hnc25 := NB269_289.out; have hnb26 := NB289_276.out; have hnc26 := NB276_289.out; have hcz27_0 : w24.cell? ⟨gb289, 0, none⟩ = some (.int .i64 0) := (blk_cell BK289.out 0).trans rfl; have hcz27_1 : w24.cell? ⟨gb289, 1, none⟩ = some (.int .i64 0) := (blk_cell BK289.out 1).trans rfl; have hfz27_0 := blk_frozen BK289.out 0; have hfz27_1 := blk_frozen BK289.out 1; have hcz28_0 : w24.cell? ⟨gb276, 0, none⟩ = some (.int .i64 t271) := (blk_cell BK276.out 0).trans rfl; have hcz28_1 : w24.cell? ⟨gb276, 1, none⟩ = some (.int .i64 t272) := (blk_cell BK276.out 1).trans rfl; have hcz28_2 : w24.cell? ⟨gb276, 2, none⟩ = some (.slice Ao15 t273.length co15) := (blk_cell BK276.out 2).trans rfl; have hfz28_0 := blk_frozen BK276.out 0; have hfz28_1 := blk_frozen BK276.out 1; have hfz28_2 := blk_frozen BK276.out 2) | ((with_reducible refine gate_callee (f := 22) rfl ?_); refine goesL_ (some 47) rfl rfl Try.func22 (by kernel_rfl) rfl #[.agg #[.int .i64 t271, .int .i64 t272, .slice Ao15 t273.length co15], .agg #[.int .i64 t286, .int .i64 t287]] rfl (by (try simp only [List.map_toArray, List.map_cons, List.map_nil]); first | done | rfl | (simp only [List.length_drop, List.length_take]; rfl)) ?_; (with_reducible refine (meter_Weight.calls k1 t271 t272 _ _ t273 t286 t287 t290 t291 _ ?side1 ?side2 A19.out).mono ?_); (case side1 => refine (Kd.R_reads' (e := 3) (base := w.heap.size) (ok := fun k_ => True) (n := t273.length) (c := co15) ?_).2.2; exact (qR ((Kd.R_mono (Kd.R_far (p := ⟨gb289, 1, none⟩) (Kd.R_far (p := ⟨gb289, 0, none⟩) (Kd.R_types HO_277002.out BK289.out (by decide)) (fun _ hk => hk.2) (.int .i64 t286)) (fun _ hk => hk.2) (.int .i64 t287)) (fun _ h_ => h_.1))))); (case side2 => exact (Kd.R_reads' HO_277002.out).2.1); rintro e w29 ⟨rfl, hb⟩; refine ⟨_, rfl, ?_⟩; have n0_ := Aside0.mk (Kd.R_below (qR ((Kd.R_mono (Kd.R_far (p := ⟨gb289, 1, none⟩) (Kd.R_far (p := ⟨gb289, 0, none⟩) (Kd.R_mono HO_11.out (fun k_ hk => (⟨hk, hk.2⟩ : _ ∧ k_ ≠ gb289))) (fun _ hk => hk.2) (.int .i64 t286)) (fun _ hk => hk.2) (.int .i64 t287)) (fun _ h_ => h_.1)))) hb); have n1_ := Aside0.mk (Kd.R_below (qR ((Kd.R_mono (Kd.R_far (p := ⟨gb289, 1, none⟩) (Kd.R_far (p := ⟨gb289, 0, none⟩) (Kd.R_types HO_277002.out BK289.out (by decide)) (fun _ hk => hk.2) (.int .i64 t286)) (fun _ hk => hk.2) (.int .i64 t287)) (fun _ h_ => h_.1)))) hb); have n2_ := Aside0.mk (blk_below (g := gb269) (o := .cells #[.int .i64 a0_0, .int .i64 a0_1, .slice A0_2 l0_2.length c0_2] 24 (0, 0)) (by (with_reducible repeat (first | refine blk_drewN ?_ _ | refine blk_drew ?_ | refine blk_alloc ?_ _)); refine blk_far ?_ NB269_289.out _; (with_reducible repeat (first | refine blk_drewN ?_ _ | refine blk_drew ?_ | refine blk_alloc ?_ _)); refine blk_far ?_ NB269_289.out _; (with_reducible repeat (first | refine blk_drewN ?_ _ | refine blk_drew ?_ | refine blk_alloc ?_ _)); exact BK269.out) hb); have n3_ := Aside0.mk (blk_below (g := gb276) (o := .cells #[.int .i64 t271, .int .i64 t272, .slice Ao15 t273.length co15] 24 (0, 0)) (by (with_reducible repeat (first | refine blk_drewN ?_ _ | refine blk_drew ?_ | refine blk_alloc ?_ _)); refine blk_far ?_ NB276_289.out _; (with_reducible repeat (first | refine blk_drewN ?_ _ | refine blk_drew ?_ | refine blk_alloc ?_ _)); refine blk_far ?_ NB276_289.out _; (with_reducible repeat (first | refine blk_drewN ?_ _ | refine blk_drew ?_ | refine blk_alloc ?_ _)); exact BK276.out) hb); have n4_ := Aside0.mk (blk_below (g := gb289) (o := .cells #[.int .i64 t286, .int .i64 t287] 26 (0, 0)) (by (with_reducible repeat (first | refine blk_drewN ?_ _ | refine blk_drew ?_ | refine blk_alloc ?_ _)); refine blk_put (cs := #[.int .i64 t286, .int .i64 0]) ?_ 1 _ rfl; (with_reducible repeat (first | refine blk_drewN ?_ _ | refine blk_drew ?_ | refine blk_alloc ?_ _)); refine blk_put (cs := #[.int .i64 0, .int .i64 0]) ?_ 0 _ rfl; (with_reducible repeat (first | refine blk_drewN ?_ _ | refine blk_drew ?_ | refine blk_alloc ?_ _)); exact BK289.out) hb); have n5_ := Aside0.mk (below_step (by repeat (first | (with_reducible first | exact HB.out | apply below_alloc | apply pw_below_drewN | apply below_drew1 | refine below_set ?_ (Aside0.out (by assumption))) | exact HB.out)) hb); clear HO_11; clear HO_277002; clear BK269; clear BK276; clear BK289; clear HB; have HO_11 := n0_; have HO_277002 := n1_; have BK269 := n2_; have BK276 := n3_; have BK289 := n4_; have HB := n5_; clear n0_ n1_ n2_ n3_ n4_ n5_; (try clear hb); (try clear hb2); (try clear hk); (try clear hi)))
     (try simp only [Act.put, qa_, qz_, qs_])
     go_cut [70] (fun v70 wc => ∃ (kq : Nat) (x70_19 : Bool), v70 = .bool x70_19 ∧ Aside0 (partitalaw05_MeterWeights.j1 kq a2 a3 t270 t277 t280 x13_1 x14_1 t290 x70_19 t271 t272 t273 = some r) ∧ Aside0 (kq ≤ k1) ∧ Aside0 (Kd.R k26 26 wc w.heap.size (fun k_ => k_ ≠ gb289) v278 t277) ∧ Aside0 (Kd.R (Kd.int .i64) 3 wc w.heap.size (fun _ => True) (.slice Ao15 t273.length co15) t273) ∧ Aside0 (wc.heap[gb269]? = some (.cells #[.int .i64 a0_0, .int .i64 a0_1, (.slice A0_2 l0_2.length c0_2)] 24 (0, 0))) ∧ Aside0 (wc.heap[gb276]? = some (.cells #[.int .i64 t271, .int .i64 t272, (.slice Ao15 t273.length co15)] 24 (0, 0))) ∧ Aside0 (wc.heap[gb289]? = some (.cells #[.int .i64 t286, .int .i64 t287] 26 (0, 0))) ∧ Aside0 (Below w.heap.size w wc))
     case first =>
      have H := HC20.out
      clear HC20
      by_cases c30 : t288 = 0
      · rw [if_pos c30] at H
        have c30b0 : (t288 == 0) = true := beq_iff_eq.mpr c30
        have c30b1 : (t288 != 0) = false := bne_eq_false_iff_eq.mpr c30
        clear c30
        (first | rw [c30b0] | (simp only [i64_w, i32_w]; rw [c30b0]) | skip)
        by_cases c31 : t291 = 0
        · rw [if_pos c31] at H
          have c31b0 : (t291 == 0) = true := beq_iff_eq.mpr c31
          have c31b1 : (t291 != 0) = false := bne_eq_false_iff_eq.mpr c31
          clear c31
          by_cases c32 : ((t290 == 3) != (x14_1 == 0)) = true
          · rw [if_pos c32] at H
            have c32b0 : ((t290 == 3) != (x14_1 == 0)) = true := c32
            (try (have c32b1 : decide ((t290 == 3) = (x14_1 == 0)) = false := by simpa using c32))
            (try (have c32b2 : ((t290 == 3) == (x14_1 == 0)) = false := by simpa using c32))
            (try (have c32b3 : ¬ ((t290 == 3) = (x14_1 == 0)) := by simpa using c32))
            clear c32
            have H' := Aside0.mk H
            clear H
            go_wp2
            go_meet
            case rel => exact ⟨_, (true), (by first | rfl | (simp; done) | (simp [*]; done) | (simp [wrap64]; done)), H', ⟨by have := HK1.out; first | omega | exact Nat.le_refl _⟩, ⟨by (with_reducible repeat (first | apply Kd.R_alloc | apply Kd.R_drewN | apply Kd.R_drew)); exact Kd.R_mono HO_11.out (fun _ hk => hk.2)⟩, ⟨by (with_reducible repeat (first | apply Kd.R_alloc | apply Kd.R_drewN | apply Kd.R_drew)); exact HO_277002.out⟩, ⟨by (with_reducible repeat (first | refine blk_drewN ?_ _ | refine blk_drew ?_ | refine blk_alloc ?_ _)); exact BK269.out⟩, ⟨by (with_reducible repeat (first | refine blk_drewN ?_ _ | refine blk_drew ?_ | refine blk_alloc ?_ _)); exact BK276.out⟩, ⟨by (with_reducible repeat (first | refine blk_drewN ?_ _ | refine blk_drew ?_ | refine blk_alloc ?_ _)); exact BK289.out⟩, ⟨by repeat (first | (with_reducible first | exact HB.out | apply below_alloc | apply pw_below_drewN | apply below_drew1 | refine below_set ?_ (Aside0.out (by assumption))) | exact HB.out)⟩⟩
          · rw [if_neg c32] at H
            have c32b0 : ((t290 == 3) != (x14_1 == 0)) = false := by simpa using c32
            (try (have c32b1 : decide ((t290 == 3) = (x14_1 == 0)) = true := by simpa using c32))
            (try (have c32b2 : ((t290 == 3) == (x14_1 == 0)) = true := by simpa using c32))
            clear c32
            by_cases c33 : t290 < 1
            · rw [if_pos c33] at H
              have c33b0 : decide (t290 < 1) = true := decide_eq_true c33
              clear c33
              have H' := Aside0.mk H
              clear H
              go_wp2
              go_meet
              case rel => exact ⟨_, (true), (by first | rfl | (simp; done) | (simp [*]; done) | (simp [wrap64]; done)), H', ⟨by have := HK1.out; first | omega | exact Nat.le_refl _⟩, ⟨by (with_reducible repeat (first | apply Kd.R_alloc | apply Kd.R_drewN | apply Kd.R_drew)); exact Kd.R_mono HO_11.out (fun _ hk => hk.2)⟩, ⟨by (with_reducible repeat (first | apply Kd.R_alloc | apply Kd.R_drewN | apply Kd.R_drew)); exact HO_277002.out⟩, ⟨by (with_reducible repeat (first | refine blk_drewN ?_ _ | refine blk_drew ?_ | refine blk_alloc ?_ _)); exact BK269.out⟩, ⟨by (with_reducible repeat (first | refine blk_drewN ?_ _ | refine blk_drew ?_ | refine blk_alloc ?_ _)); exact BK276.out⟩, ⟨by (with_reducible repeat (first | refine blk_drewN ?_ _ | refine blk_drew ?_ | refine blk_alloc ?_ _)); exact BK289.out⟩, ⟨by repeat (first | (with_reducible first | exact HB.out | apply below_alloc | apply pw_below_drewN | apply below_drew1 | refine below_set ?_ (Aside0.out (by assumption))) | exact HB.out)⟩⟩
            · rw [if_neg c33] at H
              have c33b0 : decide (t290 < 1) = false := decide_eq_false c33
              clear c33
              have H' := Aside0.mk H
              clear H
              go_wp2
              go_meet
              case rel => exact ⟨_, (decide (t290 > 3)), (by first | rfl | (simp; done) | (simp [*]; done) | (simp [wrap64]; done)), H', ⟨by have := HK1.out; first | omega | exact Nat.le_refl _⟩, ⟨by (with_reducible repeat (first | apply Kd.R_alloc | apply Kd.R_drewN | apply Kd.R_drew)); exact Kd.R_mono HO_11.out (fun _ hk => hk.2)⟩, ⟨by (with_reducible repeat (first | apply Kd.R_alloc | apply Kd.R_drewN | apply Kd.R_drew)); exact HO_277002.out⟩, ⟨by (with_reducible repeat (first | refine blk_drewN ?_ _ | refine blk_drew ?_ | refine blk_alloc ?_ _)); exact BK269.out⟩, ⟨by (with_reducible repeat (first | refine blk_drewN ?_ _ | refine blk_drew ?_ | refine blk_alloc ?_ _)); exact BK276.out⟩, ⟨by (with_reducible repeat (first | refine blk_drewN ?_ _ | refine blk_drew ?_ | refine blk_alloc ?_ _)); exact BK289.out⟩, ⟨by repeat (first | (with_reducible first | exact HB.out | apply below_alloc | apply pw_below_drewN | apply below_drew1 | refine below_set ?_ (Aside0.out (by assumption))) | exact HB.out)⟩⟩
        · rw [if_neg c31] at H
          have c31b0 : (t291 == 0) = false := beq_eq_false_iff_ne.mpr c31
          have c31b1 : (t291 != 0) = true := bne_iff_ne.mpr c31
          have H' := Aside0.mk H
          clear H
          go_wp2
          go_meet
          case rel => exact ⟨_, (true), (by first | rfl | (simp; done) | (simp [*]; done) | (simp [wrap64]; done)), H', ⟨by have := HK1.out; first | omega | exact Nat.le_refl _⟩, ⟨by (with_reducible repeat (first | apply Kd.R_alloc | apply Kd.R_drewN | apply Kd.R_drew)); exact Kd.R_mono HO_11.out (fun _ hk => hk.2)⟩, ⟨by (with_reducible repeat (first | apply Kd.R_alloc | apply Kd.R_drewN | apply Kd.R_drew)); exact HO_277002.out⟩, ⟨by (with_reducible repeat (first | refine blk_drewN ?_ _ | refine blk_drew ?_ | refine blk_alloc ?_ _)); exact BK269.out⟩, ⟨by (with_reducible repeat (first | refine blk_drewN ?_ _ | refine blk_drew ?_ | refine blk_alloc ?_ _)); exact BK276.out⟩, ⟨by (with_reducible repeat (first | refine blk_drewN ?_ _ | refine blk_drew ?_ | refine blk_alloc ?_ _)); exact BK289.out⟩, ⟨by repeat (first | (with_reducible first | exact HB.out | apply below_alloc | apply pw_below_drewN | apply below_drew1 | refine below_set ?_ (Aside0.out (by assumption))) | exact HB.out)⟩⟩
      · rw [if_neg c30] at H
        have c30b0 : (t288 == 0) = false := beq_eq_false_iff_ne.mpr c30
        have c30b1 : (t288 != 0) = true := bne_iff_ne.mpr c30
        (first | rw [c30b0] | (simp only [i64_w, i32_w]; rw [c30b0]) | skip)
        have H' := Aside0.mk H
        clear H
        go_wp2
        go_meet
        case rel => exact ⟨_, (true), (by first | rfl | (simp; done) | (simp [*]; done) | (simp [wrap64]; done)), H', ⟨by have := HK1.out; first | omega | exact Nat.le_refl _⟩, ⟨by (with_reducible repeat (first | apply Kd.R_alloc | apply Kd.R_drewN | apply Kd.R_drew)); exact Kd.R_mono HO_11.out (fun _ hk => hk.2)⟩, ⟨by (with_reducible repeat (first | apply Kd.R_alloc | apply Kd.R_drewN | apply Kd.R_drew)); exact HO_277002.out⟩, ⟨by (with_reducible repeat (first | refine blk_drewN ?_ _ | refine blk_drew ?_ | refine blk_alloc ?_ _)); exact BK269.out⟩, ⟨by (with_reducible repeat (first | refine blk_drewN ?_ _ | refine blk_drew ?_ | refine blk_alloc ?_ _)); exact BK276.out⟩, ⟨by (with_reducible repeat (first | refine blk_drewN ?_ _ | refine blk_drew ?_ | refine blk_alloc ?_ _)); exact BK289.out⟩, ⟨by repeat (first | (with_reducible first | exact HB.out | apply below_alloc | apply pw_below_drewN | apply below_drew1 | refine below_set ?_ (Aside0.out (by assumption))) | exact HB.out)⟩⟩
     case rest =>
      clear HC20
      try clear c1
      try clear c2
      try clear p2
      try clear c3
      try clear c4
      try clear c10
      try clear c11
      try clear c13
      try clear c14
      try clear c17
      try clear c17b0
      try clear c21
      try clear c22
      try clear c25
      try clear c26
      try clear c30
      try clear c30b0
      try clear c30b1
      try clear c31
      try clear c31b0
      try clear c31b1
      try clear c32
      try clear c32b0
      try clear c32b1
      try clear c32b2
      try clear c33
      try clear c33b0
      try clear hcz10_0
      try clear hcz10_1
      try clear hcz10_2
      try clear hcz14_0
      try clear hcz14_1
      try clear hcz14_2
      try clear hcz22_0
      try clear hcz22_1
      try clear hcz22_2
      try clear hcz27_0
      try clear hcz27_1
      try clear hcz28_0
      try clear hcz28_1
      try clear hcz28_2
      try clear hfz10_0
      try clear hfz10_1
      try clear hfz10_2
      try clear hfz14_0
      try clear hfz14_1
      try clear hfz14_2
      try clear hfz22_0
      try clear hfz22_1
      try clear hfz22_2
      try clear hfz27_0
      try clear hfz27_1
      try clear hfz28_0
      try clear hfz28_1
      try clear hfz28_2
      try clear p2
      obtain ⟨kq, x70_19, rfl, HA, HJ19, HO_11, HO_277002, BK269, BK276, BK289, HB⟩ := hcut
      cases kq with
      | zero => exact absurd HA.out (by simp [partitalaw05_MeterWeights.j1])
      | succ kj19 =>
       have H := HA.out
       clear HA
       simp only [partitalaw05_MeterWeights.j1] at H
       by_cases c34 : x70_19 = true
       · subst c34
         have H1 : none = some r := by rw [if_pos rfl] at H; exact H
         cases H1
       · replace c34 := Bool.eq_false_iff.mpr c34
         subst c34
         have H1 : (if t290 > 1 then (partitalaw05_MeterWeights.l0 kj19 a2 a3 t270 t277 t280 (wrap64 (x13_1 + 1)) (wrap64 (x14_1 + 1)) t271 t272 t273) else (partitalaw05_MeterWeights.l0 kj19 a2 a3 t270 t277 t280 x13_1 (wrap64 (x14_1 + 1)) t271 t272 t273)) = some r := by rw [if_neg (show ¬ (false = true) by decide)] at H; exact H
         clear H
         have H := H1
         clear H1
         by_cases c35 : t290 > 1
         · rw [if_pos c35] at H
           have c35b0 : decide (1 < t290) = true := decide_eq_true c35
           clear c35
           have H' := Aside0.mk H
           clear H
           go_wp2
           go_roundg kj19
           case measure => have := HK1.out; have := HJ19.out; omega
           case rel => exact ⟨(wrap64 (x13_1 + 1)), (wrap64 (x14_1 + 1)), (by first | rfl | (simp; done) | (simp [*]; done) | (simp [wrap64]; done)), (by first | rfl | (simp; done) | (simp [*]; done) | (simp [wrap64]; done)), H', ⟨by have := HK1.out; have := HJ19.out; omega⟩, ⟨by (with_reducible repeat (first | apply Kd.R_alloc | apply Kd.R_drewN | apply Kd.R_drew)); exact Kd.R_mono HO_11.out (fun _ hk => trivial)⟩, ⟨by (with_reducible repeat (first | apply Kd.R_alloc | apply Kd.R_drewN | apply Kd.R_drew)); exact HO_277002.out⟩, ⟨by (with_reducible repeat (first | refine blk_drewN ?_ _ | refine blk_drew ?_ | refine blk_alloc ?_ _)); exact BK269.out⟩, ⟨by (with_reducible repeat (first | refine blk_drewN ?_ _ | refine blk_drew ?_ | refine blk_alloc ?_ _)); exact BK276.out⟩, ⟨by repeat (first | (with_reducible first | exact HB.out | apply below_alloc | apply pw_below_drewN | apply below_drew1 | refine below_set ?_ (Aside0.out (by assumption))) | exact HB.out)⟩⟩
         · rw [if_neg c35] at H
           have c35b0 : decide (1 < t290) = false := decide_eq_false c35
           clear c35
           have H' := Aside0.mk H
           clear H
           go_wp2
           go_roundg kj19
           case measure => have := HK1.out; have := HJ19.out; omega
           case rel => exact ⟨(x13_1), (wrap64 (x14_1 + 1)), (by first | rfl | (simp; done) | (simp [*]; done) | (simp [wrap64]; done)), (by first | rfl | (simp; done) | (simp [*]; done) | (simp [wrap64]; done)), H', ⟨by have := HK1.out; have := HJ19.out; omega⟩, ⟨by (with_reducible repeat (first | apply Kd.R_alloc | apply Kd.R_drewN | apply Kd.R_drew)); exact Kd.R_mono HO_11.out (fun _ hk => trivial)⟩, ⟨by (with_reducible repeat (first | apply Kd.R_alloc | apply Kd.R_drewN | apply Kd.R_drew)); exact HO_277002.out⟩, ⟨by (with_reducible repeat (first | refine blk_drewN ?_ _ | refine blk_drew ?_ | refine blk_alloc ?_ _)); exact BK269.out⟩, ⟨by (with_reducible repeat (first | refine blk_drewN ?_ _ | refine blk_drew ?_ | refine blk_alloc ?_ _)); exact BK276.out⟩, ⟨by repeat (first | (with_reducible first | exact HB.out | apply below_alloc | apply pw_below_drewN | apply below_drew1 | refine below_set ?_ (Aside0.out (by assumption))) | exact HB.out)⟩⟩
   · rw [if_neg c17] at H
     have c17b0 : decide (x14_1 < t271) = false := decide_eq_false c17
     clear c17
     replace H := Option.bind_eq_some_iff.mp H
     obtain ⟨⟨t281, t282⟩, A360, H⟩ := H
     replace H : ((meter_Weight.f k1 t271 t272 t273 t281 t282).bind fun bt284 => (if t270 = true then (if t280 = 0 then (if x13_1 = (t277.length : Int) then (if bt284.2 = 0 then (if t282 = 0 then (none) else (some ((bt284.1 == 0) == ((Int.tmod (wrap64 (t281 * t272)) t282) != 0)))) else none) else none) else none) else none)) = some r := H
     have A36 := Aside0.mk A360
     clear A360
     replace H := Option.bind_eq_some_iff.mp H
     obtain ⟨⟨t284, t285⟩, A370, H⟩ := H
     replace H : (if t270 = true then (if t280 = 0 then (if x13_1 = (t277.length : Int) then (if t285 = 0 then (if t282 = 0 then (none) else (some ((t284 == 0) == ((Int.tmod (wrap64 (t281 * t272)) t282) != 0)))) else none) else none) else none) else none) = some r := H
     have A37 := Aside0.mk A370
     clear A370
     by_cases c38 : t270 = true
     · subst c38
       have H1 : (if t280 = 0 then (if x13_1 = (t277.length : Int) then (if t285 = 0 then (if t282 = 0 then (none) else (some ((t284 == 0) == ((Int.tmod (wrap64 (t281 * t272)) t282) != 0)))) else none) else none) else none) = some r := by rw [if_pos rfl] at H; exact H
       clear H
       have H := H1
       clear H1
       by_cases c39 : t280 = 0
       · rw [if_pos c39] at H
         have c39b0 : (t280 == 0) = true := beq_iff_eq.mpr c39
         have c39b1 : (t280 != 0) = false := bne_eq_false_iff_eq.mpr c39
         clear c39
         by_cases c40 : x13_1 = (t277.length : Int)
         · rw [if_pos c40] at H
           have c40b0 : (x13_1 == (t277.length : Int)) = true := beq_iff_eq.mpr c40
           have c40b1 : (x13_1 != (t277.length : Int)) = false := bne_eq_false_iff_eq.mpr c40
           clear c40
           by_cases c41 : t285 = 0
           · rw [if_pos c41] at H
             have c41b0 : (t285 == 0) = true := beq_iff_eq.mpr c41
             have c41b1 : (t285 != 0) = false := bne_eq_false_iff_eq.mpr c41
             clear c41
             by_cases c42 : t282 = 0
             · rw [if_pos c42] at H
               exact absurd H (by simp)
             · rw [if_neg c42] at H
               have c42b0 : (t282 == 0) = false := beq_eq_false_iff_ne.mpr c42
               have c42b1 : (t282 != 0) = true := bne_iff_ne.mpr c42
               obtain rfl := Option.some.inj H
               have hnb43 := NB276_269.out
               have hnc43 := NB269_276.out
               have hcz44_0 : wr.cell? ⟨gb276, 0, none⟩ = some (.int .i64 t271) := (blk_cell BK276.out 0).trans rfl
               have hcz44_1 : wr.cell? ⟨gb276, 1, none⟩ = some (.int .i64 t272) := (blk_cell BK276.out 1).trans rfl
               have hcz44_2 : wr.cell? ⟨gb276, 2, none⟩ = some (.slice Ao15 t273.length co15) := (blk_cell BK276.out 2).trans rfl
               have hfz44_0 := blk_frozen BK276.out 0
               have hfz44_1 := blk_frozen BK276.out 1
               have hfz44_2 := blk_frozen BK276.out 2
               go_wp2_with (first | ((with_reducible refine gate_callee (f := 21) rfl ?_); refine goesL_ (some 78) rfl rfl Try.func21 (by kernel_rfl) rfl #[.agg #[.int .i64 t271, .int .i64 t272, .slice Ao15 t273.length co15], .int .i64 a2, .int .i64 a3] rfl (by (try simp only [List.map_toArray, List.map_cons, List.map_nil]); first | done | rfl | (simp only [List.length_drop, List.length_take]; rfl)) ?_; (with_reducible refine (partitalaw05_place.calls k1 t271 t272 _ _ t273 a2 a3 t281 t282 _ ?side1 ?side2 A36.out).mono ?_); (case side1 => repeat (first | exact (Kd.R_reads' HO_277002.out).2.2 | (with_reducible refine Kd.C_alloc ?_ _) | (with_reducible refine Kd.C_drewN ?_ _) | (with_reducible refine Kd.C_drew ?_))); (case side2 => exact (Kd.R_reads' HO_277002.out).2.1); rintro e w45 ⟨rfl, hb⟩; refine ⟨_, rfl, ?_⟩; have n0_ := Aside0.mk (Kd.R_below (qR HO_11.out) hb); have n1_ := Aside0.mk (Kd.R_below (qR HO_277002.out) hb); have n2_ := Aside0.mk (blk_below (qB BK269.out) hb); have n3_ := Aside0.mk (blk_below (qB BK276.out) hb); have n4_ := Aside0.mk (below_step (by repeat (first | (with_reducible first | exact HB.out | apply below_alloc | apply pw_below_drewN | apply below_drew1 | refine below_set ?_ (Aside0.out (by assumption))) | exact HB.out)) hb); clear HO_11; clear HO_277002; clear BK269; clear BK276; clear HB; have HO_11 := n0_; have HO_277002 := n1_; have BK269 := n2_; have BK276 := n3_; have HB := n4_; clear n0_ n1_ n2_ n3_ n4_; (try clear hb); (try clear hb2); (try clear hk); (try clear hi)) | ((with_reducible refine gate_dst (N := 19) rfl ?_); (try (refine gate_guard (by rfl) ?_; dsimp only)); refine box_event ?hg (N := 19) ?hd (cs := #[.int .i64 0, .int .i64 0]) (t := 26) ?hr ?_; (case hd => rfl); (case hg => rfl); (case hr => first | (go_simp; done) | (go_simp; rfl)); intro gb283 hg w46 hbox hb; have n0_ := Aside0.mk (Kd.R_below (Kd.R_elderB (qR HO_11.out) gb283 (Nat.le_of_eq hg.symm)) hb); have n1_ := Aside0.mk (Kd.R_below (qR HO_277002.out) hb); have n2_ := Aside0.mk (blk_below (qB BK269.out) hb); have n3_ := Aside0.mk (blk_below (qB BK276.out) hb); have n4_ := Aside0.mk (below_step (by repeat (first | (with_reducible first | exact HB.out | apply below_alloc | apply pw_below_drewN | apply below_drew1 | refine below_set ?_ (Aside0.out (by assumption))) | exact HB.out)) hb); have n5_ := Aside0.mk (hbox); have n6_ := Aside0.mk ((by rw [hg]; exact (below_size (by repeat (first | (with_reducible first | exact HB.out | apply below_alloc | apply pw_below_drewN | apply below_drew1 | refine below_set ?_ (Aside0.out (by assumption))) | exact HB.out))) : w.heap.size ≤ gb283)); have n7_ := Aside0.mk ((by rw [hg]; exact (below_size (by repeat (first | (with_reducible first | exact HB.out | apply below_alloc | apply pw_below_drewN | apply below_drew1 | refine below_set ?_ (Aside0.out (by assumption))) | exact HB.out))) : w.heap.size ≤ gb283)); have n8_ := Aside0.mk ((by rw [hg]; exact Nat.ne_of_lt (blk_lt (qB BK269.out)) : gb269 ≠ gb283)); have n9_ := Aside0.mk ((by rw [hg]; exact Nat.ne_of_gt (blk_lt (qB BK269.out)) : gb283 ≠ gb269)); have n10_ := Aside0.mk ((by rw [hg]; exact Nat.ne_of_lt (blk_lt (qB BK276.out)) : gb276 ≠ gb283)); have n11_ := Aside0.mk ((by rw [hg]; exact Nat.ne_of_gt (blk_lt (qB BK276.out)) : gb283 ≠ gb276)); clear HO_11; clear HO_277002; clear BK269; clear BK276; clear HB; have HO_11 := n0_; have HO_277002 := n1_; have BK269 := n2_; have BK276 := n3_; have HB := n4_; have BK283 := n5_; have GW283 := n6_; have GE283 := n7_; have NB269_283 := n8_; have NB283_269 := n9_; have NB276_283 := n10_; have NB283_276 := n11_; clear n0_ n1_ n2_ n3_ n4_ n5_ n6_ n7_ n8_ n9_ n10_ n11_; clear hb hbox hg; have hnb47 := NB283_269.out; have hnc47 := NB269_283.out; have hnb48 := NB283_276.out; have hnc48 := NB276_283.out; have hcz49_0 : w46.cell? ⟨gb283, 0, none⟩ = some (.int .i64 0) := (blk_cell BK283.out 0).trans rfl; have hcz49_1 : w46.cell? ⟨gb283, 1, none⟩ = some (.int .i64 0) := (blk_cell BK283.out 1).trans rfl; have hfz49_0 := blk_frozen BK283.out 0; have hfz49_1 := blk_frozen BK283.out 1; have hcz50_0 : w46.cell? ⟨gb276, 0, none⟩ = some (.int .i64 t271) := (blk_cell BK276.out 0).trans rfl; have hcz50_1 : w46.cell? ⟨gb276, 1, none⟩ = some (.int .i64 t272) := (blk_cell BK276.out 1).trans rfl; have hcz50_2 : w46.cell? ⟨gb276, 2, none⟩ = some (.slice Ao15 t273.length co15) := (blk_cell BK276.out 2).trans rfl; have hfz50_0 := blk_frozen BK276.out 0; have hfz50_1 := blk_frozen BK276.out 1; have hfz50_2 := blk_frozen BK276.out 2) | ((with_reducible refine gate_callee (f := 22) rfl ?_); refine goesL_ (some 82) rfl rfl Try.func22 (by kernel_rfl) rfl #[.agg #[.int .i64 t271, .int .i64 t272, .slice Ao15 t273.length co15], .agg #[.int .i64 t281, .int .i64 t282]] rfl (by (try simp only [List.map_toArray, List.map_cons, List.map_nil]); first | done | rfl | (simp only [List.length_drop, List.length_take]; rfl)) ?_; (with_reducible refine (meter_Weight.calls k1 t271 t272 _ _ t273 t281 t282 t284 t285 _ ?side1 ?side2 A37.out).mono ?_); (case side1 => refine (Kd.R_reads' (e := 3) (base := w.heap.size) (ok := fun k_ => True) (n := t273.length) (c := co15) ?_).2.2; exact (qR ((Kd.R_mono (Kd.R_far (p := ⟨gb283, 1, none⟩) (Kd.R_far (p := ⟨gb283, 0, none⟩) (Kd.R_types HO_277002.out BK283.out (by decide)) (fun _ hk => hk.2) (.int .i64 t281)) (fun _ hk => hk.2) (.int .i64 t282)) (fun _ h_ => h_.1))))); (case side2 => exact (Kd.R_reads' HO_277002.out).2.1); rintro e w51 ⟨rfl, hb⟩; refine ⟨_, rfl, ?_⟩; have n0_ := Aside0.mk (Kd.R_below (qR ((Kd.R_mono (Kd.R_far (p := ⟨gb283, 1, none⟩) (Kd.R_far (p := ⟨gb283, 0, none⟩) (Kd.R_mono HO_11.out (fun k_ hk => (⟨hk, hk.2⟩ : _ ∧ k_ ≠ gb283))) (fun _ hk => hk.2) (.int .i64 t281)) (fun _ hk => hk.2) (.int .i64 t282)) (fun _ h_ => h_.1)))) hb); have n1_ := Aside0.mk (Kd.R_below (qR ((Kd.R_mono (Kd.R_far (p := ⟨gb283, 1, none⟩) (Kd.R_far (p := ⟨gb283, 0, none⟩) (Kd.R_types HO_277002.out BK283.out (by decide)) (fun _ hk => hk.2) (.int .i64 t281)) (fun _ hk => hk.2) (.int .i64 t282)) (fun _ h_ => h_.1)))) hb); have n2_ := Aside0.mk (blk_below (g := gb269) (o := .cells #[.int .i64 a0_0, .int .i64 a0_1, .slice A0_2 l0_2.length c0_2] 24 (0, 0)) (by (with_reducible repeat (first | refine blk_drewN ?_ _ | refine blk_drew ?_ | refine blk_alloc ?_ _)); refine blk_far ?_ NB269_283.out _; (with_reducible repeat (first | refine blk_drewN ?_ _ | refine blk_drew ?_ | refine blk_alloc ?_ _)); refine blk_far ?_ NB269_283.out _; (with_reducible repeat (first | refine blk_drewN ?_ _ | refine blk_drew ?_ | refine blk_alloc ?_ _)); exact BK269.out) hb); have n3_ := Aside0.mk (blk_below (g := gb276) (o := .cells #[.int .i64 t271, .int .i64 t272, .slice Ao15 t273.length co15] 24 (0, 0)) (by (with_reducible repeat (first | refine blk_drewN ?_ _ | refine blk_drew ?_ | refine blk_alloc ?_ _)); refine blk_far ?_ NB276_283.out _; (with_reducible repeat (first | refine blk_drewN ?_ _ | refine blk_drew ?_ | refine blk_alloc ?_ _)); refine blk_far ?_ NB276_283.out _; (with_reducible repeat (first | refine blk_drewN ?_ _ | refine blk_drew ?_ | refine blk_alloc ?_ _)); exact BK276.out) hb); have n4_ := Aside0.mk (blk_below (g := gb283) (o := .cells #[.int .i64 t281, .int .i64 t282] 26 (0, 0)) (by (with_reducible repeat (first | refine blk_drewN ?_ _ | refine blk_drew ?_ | refine blk_alloc ?_ _)); refine blk_put (cs := #[.int .i64 t281, .int .i64 0]) ?_ 1 _ rfl; (with_reducible repeat (first | refine blk_drewN ?_ _ | refine blk_drew ?_ | refine blk_alloc ?_ _)); refine blk_put (cs := #[.int .i64 0, .int .i64 0]) ?_ 0 _ rfl; (with_reducible repeat (first | refine blk_drewN ?_ _ | refine blk_drew ?_ | refine blk_alloc ?_ _)); exact BK283.out) hb); have n5_ := Aside0.mk (below_step (by repeat (first | (with_reducible first | exact HB.out | apply below_alloc | apply pw_below_drewN | apply below_drew1 | refine below_set ?_ (Aside0.out (by assumption))) | exact HB.out)) hb); clear HO_11; clear HO_277002; clear BK269; clear BK276; clear BK283; clear HB; have HO_11 := n0_; have HO_277002 := n1_; have BK269 := n2_; have BK276 := n3_; have BK283 := n4_; have HB := n5_; clear n0_ n1_ n2_ n3_ n4_ n5_; (try clear hb); (try clear hb2); (try clear hk); (try clear hi); obtain ⟨Ao52, co52, eo52⟩ := Kd.R_slice HO_11.out; subst eo52; have hcz53_0 : w51.cell? ⟨gb283, 0, none⟩ = some (.int .i64 t281) := (blk_cell BK283.out 0).trans rfl; have hcz53_1 : w51.cell? ⟨gb283, 1, none⟩ = some (.int .i64 t282) := (blk_cell BK283.out 1).trans rfl; have hfz53_0 := blk_frozen BK283.out 0; have hfz53_1 := blk_frozen BK283.out 1; have hcz54_0 : w51.cell? ⟨gb276, 0, none⟩ = some (.int .i64 t271) := (blk_cell BK276.out 0).trans rfl; have hcz54_1 : w51.cell? ⟨gb276, 1, none⟩ = some (.int .i64 t272) := (blk_cell BK276.out 1).trans rfl; have hcz54_2 : w51.cell? ⟨gb276, 2, none⟩ = some (.slice Ao15 t273.length co15) := (blk_cell BK276.out 2).trans rfl; have hfz54_0 := blk_frozen BK276.out 0; have hfz54_1 := blk_frozen BK276.out 1; have hfz54_2 := blk_frozen BK276.out 2))
               go_ret
               exact ⟨by first | rfl | (simp [errW_none, errW_some] <;> rfl) | (simp [*, errW_none, errW_some] <;> rfl), by repeat (first | (with_reducible first | exact HB.out | apply below_alloc | apply pw_below_drewN | apply below_drew1 | refine below_set ?_ (Aside0.out (by assumption))) | exact HB.out)⟩
           · rw [if_neg c41] at H
             cases H
         · rw [if_neg c40] at H
           cases H
       · rw [if_neg c39] at H
         cases H
     · replace c38 := Bool.eq_false_iff.mpr c38
       subst c38
       have H1 : none = some r := by rw [if_neg (show ¬ (false = true) by decide)] at H; exact H
       cases H1
end Go.Proofs.Ytbncdlnnjhadgaa.Q
