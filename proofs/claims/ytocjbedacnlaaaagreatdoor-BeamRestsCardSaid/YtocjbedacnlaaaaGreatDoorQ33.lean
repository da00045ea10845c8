-- Written by a program of this session (myprint.py), function by function.
import Derived.Test.YtocjbedacnlaaaaGreatDoorQ0
import Derived.Test.YtocjbedacnlaaaaGreatDoorQ13
import Derived.Test.YtocjbedacnlaaaaGreatDoorQ16
import Derived.Test.YtocjbedacnlaaaaGreatDoorHandA
import Derived.Test.YtocjbedacnlaaaaGreatDoorSmallMost
namespace Go.Proofs.YtocjbedacnlaaaaGreatDoor.Q
open Go.RowKit Go.Proofs.YtocjbedacnlaaaaGreatDoorW.PrintWords Go.Proofs.YtocjbedacnlaaaaGreatDoorW.PrintLast Go.Proofs.YtocjbedacnlaaaaGreatDoorW.PrintMore
attribute [local go_sem] max2_int min2_int max_two min_two max_three min_three max_four min_four   -- for this text's walks alone
set_option linter.unusedVariables false
set_option linter.unusedSimpArgs false

/-! ### partitalaw23_BeamRests: function 9 -/
def partitalaw23_BeamRests.l0 : Nat → Bool → Int → Int → Int → List Int → List (S41) → List (S41) → Option (Bool)
 | 0, _, _, _, _, _, _, _ => none
 | k + 1, x5, x9, x572000, x572001, x572002, x573000, x579000 => if x9 < (x573000.length : Int) then (if 0 ≤ x9 then (if x579000.length < 1099511627776 then (partitalaw23_BeamRests.l0 k x5 (wrap64 (x9 + 1)) x572000 x572001 x572002 x573000 (x579000 ++ [(⟨0, ([] : List (S43)), ([] : List Bool), (⟨(rd_T41 x573000 x9).f3.f0, (rd_T41 x573000 x9).f3.f1, (rd_T41 x573000 x9).f3.f2, (rd_T41 x573000 x9).f3.f3⟩ : S39), ([] : List Int), (⟨#[]⟩ : ByteArray)⟩ : S41)])) else (none)) else (none)) else ((beam_Groups.f k x572000 x572001 x572002 x579000).bind fun bt584 => (if x5 = true then (if bt584.2 = 0 then (some ((bt584.1.length : Int) == 0)) else none) else none))
def partitalaw23_BeamRests.f (k : Nat) (a0_0 : Int) (a0_1 : Int) (l0_2 : List Int) (l1_0 : List (S41)) : Option (Bool) := (partitalaw23_shown.f k).bind fun t573 => ((beam_Groups.f k a0_0 a0_1 l0_2 l1_0).bind fun bt574 => (if bt574.2 = 0 then (partitalaw23_BeamRests.l0 k t573 0 a0_0 a0_1 l0_2 l1_0 ([] : List (S41))) else (some t573)))
theorem partitalaw23_BeamRests.mono_l : ∀ k, (∀ y0 y1 y2 y3 y4 y5 y6, LeO (partitalaw23_BeamRests.l0 k y0 y1 y2 y3 y4 y5 y6) (partitalaw23_BeamRests.l0 (k + 1) y0 y1 y2 y3 y4 y5 y6))
 | 0 => fun _ _ _ _ _ _ _ r h => by simp [partitalaw23_BeamRests.l0] at h
 | k + 1 => by
  have ih0 := partitalaw23_BeamRests.mono_l k
  · intro y0 y1 y2 y3 y4 y5 y6
    unfold partitalaw23_BeamRests.l0
    repeat' first
    | (with_reducible exact ih0 _ _ _ _ _ _ _)
    | (with_reducible exact beam_Groups.mono _ _ _ _ _)
    | (with_reducible exact partitalaw23_shown.mono _)
    | (with_reducible exact LeO.refl _)
    | (with_reducible exact LeO.none _)
    | (with_reducible refine LeO.ite ?_ ?_)
    | (with_reducible refine LeO.bind ?_ (fun _ => ?_))
    | exact ih0 _ _ _ _ _ _ _
    | exact beam_Groups.mono _ _ _ _ _
    | exact partitalaw23_shown.mono _
    | exact LeO.none _
    | refine LeO.ite ?_ ?_
    | refine LeO.bind ?_ (fun _ => ?_)
theorem partitalaw23_BeamRests.mono : ∀ a0 a1 a2 a3 k, LeO (partitalaw23_BeamRests.f k a0 a1 a2 a3) (partitalaw23_BeamRests.f (k + 1) a0 a1 a2 a3) := by
 intro a0 a1 a2 a3 k
 have ih0 := partitalaw23_BeamRests.mono_l k
 unfold partitalaw23_BeamRests.f
 repeat' first
  | (with_reducible exact ih0 _ _ _ _ _ _ _)
  | (with_reducible exact beam_Groups.mono _ _ _ _ _)
  | (with_reducible exact partitalaw23_shown.mono _)
  | (with_reducible exact LeO.refl _)
  | (with_reducible exact LeO.none _)
  | (with_reducible refine LeO.ite ?_ ?_)
  | (with_reducible refine LeO.bind ?_ (fun _ => ?_))
  | exact ih0 _ _ _ _ _ _ _
  | exact beam_Groups.mono _ _ _ _ _
  | exact partitalaw23_shown.mono _
  | exact LeO.none _
  | refine LeO.ite ?_ ?_
  | refine LeO.bind ?_ (fun _ => ?_)
set_option maxHeartbeats 8000000 in
set_option maxRecDepth 100000 in
theorem partitalaw23_BeamRests.calls (k : Nat) (a0_0 : Int) (a0_1 : Int) (A0_2 : Option Addr) (c0_2 : Nat) (l0_2 : List Int) (A1_0 : Option Addr) (c1_0 : Nat) (l1_0 : List (S41)) (r : Bool) (w : World) (hr0_2 : Kd.C (Kd.int .i64) w A0_2 l0_2.length l0_2) (hc0_2 : l0_2.length ≤ c0_2) (hr1_0 : Kd.C k41 w A1_0 l1_0.length l1_0) (hc1_0 : l1_0.length ≤ c1_0) (h : partitalaw23_BeamRests.f k a0_0 a0_1 l0_2 l1_0 = some r) (SENTS : Aside0 (SentsE w) := by exact sents_step (by assumption) (by repeat (first | (with_reducible first | exact (by assumption : Aside0 (Below _ _ _)).out | apply below_alloc | apply pw_below_drewN | apply below_drew1 | refine below_set ?_ (Aside0.out (by assumption)))))) :
 Calls Tryz.prog 9 #[.agg #[.int .i64 a0_0, .int .i64 a0_1, .slice A0_2 l0_2.length c0_2], .agg #[.slice A1_0 l1_0.length c1_0]] w fun e w' => e = .returned (.bool r) ∧ Below w.heap.size w w' := by
 have hu29 := Tryz.underlying29
 have hu32 := Tryz.underlying32
 have hu39 := Tryz.underlying39
 have hu41 := Tryz.underlying41
 have HR0_2 := Aside0.mk hr0_2
 have HC0_2 := Aside0.mk hc0_2
 clear hr0_2 hc0_2
 have HR1_0 := Aside0.mk hr1_0
 have HC1_0 := Aside0.mk hc1_0
 clear hr1_0 hc1_0
 have HB := Aside0.mk (Below.refl w.heap.size w)
 have H : ((partitalaw23_shown.f k).bind fun t573 => ((beam_Groups.f k a0_0 a0_1 l0_2 l1_0).bind fun bt574 => (if bt574.2 = 0 then (partitalaw23_BeamRests.l0 k t573 0 a0_0 a0_1 l0_2 l1_0 ([] : List (S41))) else (some t573)))) = some r := h
 clear h
 replace H := Option.bind_eq_some_iff.mp H
 obtain ⟨t573, A30, H⟩ := H
 replace H : ((beam_Groups.f k a0_0 a0_1 l0_2 l1_0).bind fun bt574 => (if bt574.2 = 0 then (partitalaw23_BeamRests.l0 k t573 0 a0_0 a0_1 l0_2 l1_0 ([] : List (S41))) else (some t573))) = some r := H
 have A3 := Aside0.mk A30
 clear A30
 replace H := Option.bind_eq_some_iff.mp H
 obtain ⟨⟨t574, t577⟩, A40, H⟩ := H
 replace H : (if t577 = 0 then (partitalaw23_BeamRests.l0 k t573 0 a0_0 a0_1 l0_2 l1_0 ([] : List (S41))) else (some t573)) = some r := H
 have A4 := Aside0.mk A40
 clear A40
 by_cases c5 : t577 = 0
 · rw [if_pos c5] at H
   have c5b0 : (t577 == 0) = true := beq_iff_eq.mpr c5
   have c5b1 : (t577 != 0) = false := bne_eq_false_iff_eq.mpr c5
   clear c5
   have H' := Aside0.mk H
   clear H
   go_enter Tryz.func9, Tryz.ntmps9
   go_wp2_with (first | ((with_reducible refine gate_dst (N := 2) rfl ?_); (try (refine gate_guard (by rfl) ?_; dsimp only)); refine box_event ?hg (N := 2) ?hd (cs := #[.int .i64 a0_0, .int .i64 a0_1, .slice A0_2 l0_2.length c0_2]) (t := 29) ?hr ?_; (case hd => rfl); (case hg => rfl); (case hr => first | (go_simp; done) | (go_simp; rfl)); intro gb571 hg w6 hbox hb; have BK571 := Aside0.mk (hbox); have GW571 := qT HB hg; have GE571 := qS HB hg; replace HB := Aside0.mk (below_step (qW HB.out) hb); clear hb hbox hg) | ((with_reducible refine gate_dst (N := 3) rfl ?_); (try (refine gate_guard (by rfl) ?_; dsimp only)); refine box_event ?hg (N := 3) ?hd (cs := #[.slice A1_0 l1_0.length c1_0]) (t := 32) ?hr ?_; (case hd => rfl); (case hg => rfl); (case hr => first | (go_simp; done) | (go_simp; rfl)); intro gb572 hg w7 hbox hb; have BK572 := Aside0.mk (hbox); have GW572 := qT HB hg; have GE572 := qS HB hg; replace HB := Aside0.mk (below_step (qW HB.out) hb); have NB571_572 := qL BK571 hg; have NB572_571 := qM BK571 hg; replace BK571 := qD BK571 hb; clear hb hbox hg) | ((with_reducible refine gate_callee (f := 11) rfl ?_); refine goesL_ (some 13) rfl rfl Tryz.func11 (by kernel_rfl) rfl #[] rfl (by (try simp only [List.map_toArray, List.map_cons, List.map_nil]); first | done | rfl | (simp only [List.length_drop, List.length_take]; rfl)) ?_; (with_reducible refine (partitalaw23_shown.calls k  t573 _ A3.out).mono ?_); rintro e w8 ⟨rfl, hb⟩; refine ⟨_, rfl, ?_⟩; replace BK571 := qD BK571 hb; replace BK572 := qD BK572 hb; replace HB := Aside0.mk (below_step (qW HB.out) hb); (try clear hb); (try clear hb2); (try clear hk); (try clear hi); have hnb9 := NB571_572.out; have hnc9 := NB572_571.out; have hcz10_0 := qC BK571 0 rfl; have hcz10_1 := qC BK571 1 rfl; have hcz10_2 := qC BK571 2 rfl; have hfz10_0 := blk_frozen BK571.out 0; have hfz10_1 := blk_frozen BK571.out 1; have hfz10_2 := blk_frozen BK571.out 2; have hcz11_0 := qC BK572 0 rfl; have hfz11_0 := blk_frozen BK572.out 0) | ((with_reducible refine gate_callee (f := 13) rfl ?_); refine goesL_ (some 17) rfl rfl Tryz.func13 (by kernel_rfl) rfl #[.agg #[.int .i64 a0_0, .int .i64 a0_1, .slice A0_2 l0_2.length c0_2], .agg #[.slice A1_0 l1_0.length c1_0]] rfl (by (try simp only [List.map_toArray, List.map_cons, List.map_nil]); first | done | rfl | (simp only [List.length_drop, List.length_take]; rfl)) ?_; (with_reducible refine (beam_Groups.calls k a0_0 a0_1 _ _ l0_2 _ _ l1_0 t574 t577 _ ?side1 ?side2 ?side3 ?side4 A4.out).mono ?_); (case side1 => repeat (first | exact (Kd.C_below HR0_2.out HB.out) | (with_reducible refine Kd.C_alloc ?_ _) | (with_reducible refine Kd.C_drewN ?_ _) | (with_reducible refine Kd.C_drew ?_))); (case side2 => exact HC0_2.out); (case side3 => repeat (first | exact (Kd.C_below HR1_0.out HB.out) | (with_reducible refine Kd.C_alloc ?_ _) | (with_reducible refine Kd.C_drewN ?_ _) | (with_reducible refine Kd.C_drew ?_))); (case side4 => exact HC1_0.out); rintro e w12 ⟨v575, rfl, ho0, hb⟩; refine ⟨_, rfl, ?_⟩; have HO576 := Aside0.mk (Kd.S_lower ho0 (below_size (qW HB.out))); replace BK571 := qD BK571 hb; replace BK572 := qD BK572 hb; replace HB := Aside0.mk (below_step (qW HB.out) hb); (try clear hb); (try clear hb2); (try clear hk); (try clear hi); (try clear ho0)) | ((with_reducible refine gate_dst (N := 8) rfl ?_); (try (refine gate_guard (by rfl) ?_; dsimp only)); refine box_event ?hg (N := 8) ?hd (cs := #[.slice none 0 0]) (t := 32) ?hr ?_; (case hd => rfl); (case hg => rfl); (case hr => first | (go_simp; done) | (go_simp; rfl)); intro gb578 hg w13 hbox hb; replace HO576 := Aside0.mk (Kd.S_below (by (with_reducible repeat (first | apply Kd.S_alloc | apply Kd.S_drewN | apply Kd.S_drew)); exact HO576.out) hb); have BK578 := Aside0.mk (hbox); have GW578 := qT HB hg; have GE578 := qS HB hg; replace HB := Aside0.mk (below_step (qW HB.out) hb); have NB571_578 := qL BK571 hg; have NB578_571 := qM BK571 hg; replace BK571 := qD BK571 hb; have NB572_578 := qL BK572 hg; have NB578_572 := qM BK572 hg; replace BK572 := qD BK572 hb; clear hb hbox hg; have hnb14 := NB578_571.out; have hnc14 := NB571_578.out; have hnb15 := NB578_572.out; have hnc15 := NB572_578.out; have hcz16_0 := qC BK578 0 rfl; have hfz16_0 := blk_frozen BK578.out 0))
   go_loopg [9] k (fun kq v9 w' => ∃ (x9_1 : Int) (x579000_1 : List (S41)) (u579000 : Value), v9 = .int .i64 x9_1 ∧ Aside0 (partitalaw23_BeamRests.l0 kq t573 x9_1 a0_0 a0_1 l0_2 l1_0 x579000_1 = some r) ∧ Aside0 (kq ≤ k) ∧ Aside0 (Kd.S k41 41 w' w.heap.size (fun _ => True) u579000 x579000_1) ∧ Aside0 (w'.heap[gb571]? = some (.cells #[.int .i64 a0_0, .int .i64 a0_1, (.slice A0_2 l0_2.length c0_2)] 29 (0, 0))) ∧ Aside0 (w'.heap[gb572]? = some (.cells #[(.slice A1_0 l1_0.length c1_0)] 32 (0, 0))) ∧ Aside0 (w'.heap[gb578]? = some (.cells #[u579000] 32 (0, 0))) ∧ Aside0 (Below w.heap.size w w'))
   case atStart => exact ⟨(0), (([] : List (S41))), (.slice none 0 0), (by first | rfl | (simp; done) | (simp [*]; done) | (simp [wrap64]; done)), H', ⟨Nat.le_refl _⟩, ⟨by first | exact Kd.S_nil _ _ _ _ _ | exact Kd.N_nil _ _ _ _ _ | exact Kd.V_nil _ _ _ _ _ | exact Kd.Q_nil _ _ _ _ _ | exact Kd.R_nil _ _ _ _ _⟩, ⟨by (with_reducible repeat (first | refine blk_drewN ?_ _ | refine blk_drew ?_ | refine blk_alloc ?_ _)); refine blk_far ?_ NB571_578.out _; (with_reducible repeat (first | refine blk_drewN ?_ _ | refine blk_drew ?_ | refine blk_alloc ?_ _)); exact BK571.out⟩, ⟨by (with_reducible repeat (first | refine blk_drewN ?_ _ | refine blk_drew ?_ | refine blk_alloc ?_ _)); refine blk_far ?_ NB572_578.out _; (with_reducible repeat (first | refine blk_drewN ?_ _ | refine blk_drew ?_ | refine blk_alloc ?_ _)); exact BK572.out⟩, ⟨by (with_reducible repeat (first | refine blk_drewN ?_ _ | refine blk_drew ?_ | refine blk_alloc ?_ _)); refine blk_put (cs := #[.slice none 0 0]) ?_ 0 _ rfl; (with_reducible repeat (first | refine blk_drewN ?_ _ | refine blk_drew ?_ | refine blk_alloc ?_ _)); exact BK578.out⟩, ⟨by exact qW HB.out⟩⟩
   case round =>
    clear H'
    try clear c1
    try clear p2
    try clear c5
    try clear c5b0
    try clear c5b1
    try clear c9
    try clear c11
    try clear c13
    try clear c14
    try clear c15
    try clear hcz10_0
    try clear hcz10_1
    try clear hcz10_2
    try clear hcz11_0
    try clear hcz16_0
    try clear hfz10_0
    try clear hfz10_1
    try clear hfz10_2
    try clear hfz11_0
    try clear hfz16_0
    obtain ⟨x9_1, x579000_1, u579000, rfl, HA, HK1, HO_579000, BK571, BK572, BK578, HB⟩ := hrel
    cases gk with
    | zero => exact absurd HA.out (by simp [partitalaw23_BeamRests.l0])
    | succ k1 =>
     have H := HA.out
     clear HA
     simp only [partitalaw23_BeamRests.l0] at H
     by_cases c17 : x9_1 < (l1_0.length : Int)
     · rw [if_pos c17] at H
       have c17b0 : decide (x9_1 < (l1_0.length : Int)) = true := decide_eq_true c17
       clear c17
       by_cases c18 : 0 ≤ x9_1
       · rw [if_pos c18] at H
         have c18b0 : decide (0 ≤ x9_1) = true := decide_eq_true c18
         clear c18
         by_cases c19 : x579000_1.length < 1099511627776
         · rw [if_pos c19] at H
           have LMc19 := Aside0.mk c19
           clear c19
           obtain ⟨y581, hy581⟩ : ∃ y_ : List (S41), y_ = (x579000_1 ++ [(⟨0, ([] : List (S43)), ([] : List Bool), (⟨(rd_T41 l1_0 x9_1).f3.f0, (rd_T41 l1_0 x9_1).f3.f1, (rd_T41 l1_0 x9_1).f3.f2, (rd_T41 l1_0 x9_1).f3.f3⟩ : S39), ([] : List Int), (⟨#[]⟩ : ByteArray)⟩ : S41)]) := ⟨_, rfl⟩
           replace H : (partitalaw23_BeamRests.l0 k1 t573 (wrap64 (x9_1 + 1)) a0_0 a0_1 l0_2 l1_0 y581) = some r := by first | (rw [hy581]; with_reducible exact H) | (have H2_ := (Option.bind_some _ _).symm.trans H; rw [hy581]; with_reducible exact H2_) | (have H2_ := (Option.bind_some _ _).symm.trans H; with_reducible exact H2_) | with_reducible exact H | (rw [hy581]; exact H) | exact H
           have Ny581 := Aside0.mk hy581
           clear hy581
           have H' := Aside0.mk H
           clear H
           have hnb20 := NB572_571.out
           have hnc20 := NB571_572.out
           have hnb21 := NB572_578.out
           have hnc21 := NB578_572.out
           have hcz22_0 := qC BK572 0 rfl
           have hfz22_0 := blk_frozen BK572.out 0
           have p579 : 0 ≤ (x9_1 : Int) := of_decide_eq_true (by first | (with_reducible assumption) | assumption)
           have q579 : x9_1 < (l1_0.length : Int) := of_decide_eq_true (by first | (with_reducible assumption) | assumption)
           obtain ⟨ad579, A579_1, c579_1, A579_2, c579_2, A579_7, c579_7, e579, hx579_0, hx579_1, hx579_2, hx579_3, hx579_4, hx579_5, hx579_6, hx579_7, hx579_8, hl579_1, hi579_1, hl579_2, hi579_2, hl579_7, hi579_7⟩ := at_T41 HR1_0.out x9_1 p579 q579
           cases e579
           replace hx579_0 := (HB.out.cell (World.block_lt_of_cell? w _ hx579_0)).trans hx579_0
           replace hx579_1 := (HB.out.cell (World.block_lt_of_cell? w _ hx579_1)).trans hx579_1
           replace hx579_2 := (HB.out.cell (World.block_lt_of_cell? w _ hx579_2)).trans hx579_2
           replace hx579_3 := (HB.out.cell (World.block_lt_of_cell? w _ hx579_3)).trans hx579_3
           replace hx579_4 := (HB.out.cell (World.block_lt_of_cell? w _ hx579_4)).trans hx579_4
           replace hx579_5 := (HB.out.cell (World.block_lt_of_cell? w _ hx579_5)).trans hx579_5
           replace hx579_6 := (HB.out.cell (World.block_lt_of_cell? w _ hx579_6)).trans hx579_6
           replace hx579_7 := (HB.out.cell (World.block_lt_of_cell? w _ hx579_7)).trans hx579_7
           replace hx579_8 := (HB.out.cell (World.block_lt_of_cell? w _ hx579_8)).trans hx579_8
           have HR579_1 := Aside0.mk hi579_1
           have HC579_1 := Aside0.mk hl579_1
           clear hi579_1 hl579_1
           have HR579_2 := Aside0.mk hi579_2
           have HC579_2 := Aside0.mk hl579_2
           clear hi579_2 hl579_2
           have HR579_7 := Aside0.mk hi579_7
           have HC579_7 := Aside0.mk hl579_7
           clear hi579_7 hl579_7
           replace p579 := eq_true p579
           replace q579 := eq_true q579
           go_wp2_with (first | ((with_reducible refine gate_dst (N := 10) rfl ?_); (try (refine gate_guard (by rfl) ?_; dsimp only)); refine box_event ?hg (N := 10) ?hd (cs := #[.int .i64 0, .slice none 0 0, .slice none 0 0, .int .i64 0, .int .i64 0, .int .i64 0, .int .i64 0, .slice none 0 0, .string (⟨#[]⟩ : ByteArray)]) (t := 41) ?hr ?_; (case hd => rfl); (case hg => rfl); (case hr => first | (go_simp; done) | (go_simp; rfl)); intro gb580 hg w23 hbox hb; replace HO_579000 := Aside0.mk (Kd.S_below (Kd.S_elderB (by (with_reducible repeat (first | apply Kd.S_alloc | apply Kd.S_drewN | apply Kd.S_drew)); exact HO_579000.out) gb580 (Nat.le_of_eq hg.symm)) hb); have BK580 := Aside0.mk (hbox); have GW580 := qT HB hg; have GE580 := qS HB hg; replace HB := Aside0.mk (below_step (qW HB.out) hb); have NB571_580 := qL BK571 hg; have NB580_571 := qM BK571 hg; replace BK571 := qD BK571 hb; have NB572_580 := Aside0.mk ((by rw [hg]; exact Nat.ne_of_lt (blk_lt (g := gb572) (o := .cells #[.slice (some ad579) l1_0.length c1_0] 32 (0, 0)) (qB BK572.out)) : gb572 ≠ gb580)); have NB580_572 := Aside0.mk ((by rw [hg]; exact Nat.ne_of_gt (blk_lt (g := gb572) (o := .cells #[.slice (some ad579) l1_0.length c1_0] 32 (0, 0)) (qB BK572.out)) : gb580 ≠ gb572)); replace BK572 := Aside0.mk (blk_below (g := gb572) (o := .cells #[.slice (some ad579) l1_0.length c1_0] 32 (0, 0)) (qB BK572.out) hb); have NB578_580 := qL BK578 hg; have NB580_578 := qM BK578 hg; replace BK578 := qD BK578 hb; clear hb hbox hg; have hnb24 := NB580_571.out; have hnc24 := NB571_580.out; have hnb25 := NB580_572.out; have hnc25 := NB572_580.out; have hnb26 := NB580_578.out; have hnc26 := NB578_580.out; have hcz27_0 := qC BK580 0 rfl; have hcz27_1 := qC BK580 1 rfl; have hcz27_2 := qC BK580 2 rfl; have hcz27_3 := qC BK580 3 rfl; have hcz27_4 := qC BK580 4 rfl; have hcz27_5 := qC BK580 5 rfl; have hcz27_6 := qC BK580 6 rfl; have hcz27_7 := qC BK580 7 rfl; have hcz27_8 := qC BK580 8 rfl; have hfz27_0 := blk_frozen BK580.out 0; have hfz27_1 := blk_frozen BK580.out 1; have hfz27_2 := blk_frozen BK580.out 2; have hfz27_3 := blk_frozen BK580.out 3; have hfz27_4 := blk_frozen BK580.out 4; have hfz27_5 := blk_frozen BK580.out 5; have hfz27_6 := blk_frozen BK580.out 6; have hfz27_7 := blk_frozen BK580.out 7; have hfz27_8 := blk_frozen BK580.out 8; have hnb28 := NB578_571.out; have hnc28 := NB571_578.out; have hcz29_0 := qC BK578 0 rfl; have hfz29_0 := blk_frozen BK578.out 0) | ((with_reducible refine gate_builtin (b := .append) (xs := #[.tmp 39, .tmp 41]) rfl ?_); (try (refine gate_guard (by rfl) ?_; dsimp only)); at_builtin; refine Kd.S_append k41 (w0 := w) w.heap.size rfl (.tmp 39) (.tmp 41) 30 41 (.agg #[(.int .i64 0), (.slice none 0 0), (.slice none 0 0), (.int .i64 0), (.int .i64 0), (.int .i64 0), (.int .i64 0), (.slice none 0 0), (.string ⟨#[]⟩)]) 128 rfl Tryz.underlying30 info41 rfl (by decide) (by omega) u579000 x579000_1 (⟨0, ([] : List (S43)), ([] : List Bool), (⟨(rd_T41 l1_0 x9_1).f3.f0, (rd_T41 l1_0 x9_1).f3.f1, (rd_T41 l1_0 x9_1).f3.f2, (rd_T41 l1_0 x9_1).f3.f3⟩ : S39), ([] : List Int), (⟨#[]⟩ : ByteArray)⟩ : S41) [.int .i64 0, .slice none 0 0, .slice none 0 0, .int .i64 ((rd_T41 l1_0 x9_1).f3.f0), .int .i64 ((rd_T41 l1_0 x9_1).f3.f1), .int .i64 ((rd_T41 l1_0 x9_1).f3.f2), .int .i64 ((rd_T41 l1_0 x9_1).f3.f3), .slice none 0 0, .string (⟨#[]⟩ : ByteArray)] (fun k_ => k_ ≠ gb580) (fun _ => False) rfl (by first | (go_simp; done) | (go_simp; rfl)) ?aP (fun k_ hk_ => hk_.elim) ?aF ?aO ?aB ?aS ?aL ?_; (case aP => exact k41_mkM _ _ _ (⟨0, ([] : List (S43)), ([] : List Bool), (⟨(rd_T41 l1_0 x9_1).f3.f0, (rd_T41 l1_0 x9_1).f3.f1, (rd_T41 l1_0 x9_1).f3.f2, (rd_T41 l1_0 x9_1).f3.f3⟩ : S39), ([] : List Int), (⟨#[]⟩ : ByteArray)⟩ : S41) (Kd.R_nil _ _ _ _ _) (Kd.R_nil _ _ _ _ _) (Kd.R_nil _ _ _ _ _)); (case aB => exact (qW HB.out)); (case aF => exact (fun k_ hk => Kd.freshB (g := gb580) (o := .cells #[.int .i64 0, .slice none 0 0, .slice none 0 0, .int .i64 ((rd_T41 l1_0 x9_1).f3.f0), .int .i64 ((rd_T41 l1_0 x9_1).f3.f1), .int .i64 ((rd_T41 l1_0 x9_1).f3.f2), .int .i64 ((rd_T41 l1_0 x9_1).f3.f3), .slice none 0 0, .string (⟨#[]⟩ : ByteArray)] 41 (0, 0)) (by (with_reducible repeat (first | refine blk_drewN ?_ _ | refine blk_drew ?_ | refine blk_alloc ?_ _)); refine blk_put (cs := #[.int .i64 0, .slice none 0 0, .slice none 0 0, .int .i64 ((rd_T41 l1_0 x9_1).f3.f0), .int .i64 ((rd_T41 l1_0 x9_1).f3.f1), .int .i64 ((rd_T41 l1_0 x9_1).f3.f2), .int .i64 ((rd_T41 l1_0 x9_1).f3.f3), .slice none 0 0, .string (⟨#[]⟩ : ByteArray)]) ?_ 8 _ rfl; (with_reducible repeat (first | refine blk_drewN ?_ _ | refine blk_drew ?_ | refine blk_alloc ?_ _)); refine blk_put (cs := #[.int .i64 0, .slice none 0 0, .slice none 0 0, .int .i64 ((rd_T41 l1_0 x9_1).f3.f0), .int .i64 ((rd_T41 l1_0 x9_1).f3.f1), .int .i64 ((rd_T41 l1_0 x9_1).f3.f2), .int .i64 ((rd_T41 l1_0 x9_1).f3.f3), .slice none 0 0, .string (⟨#[]⟩ : ByteArray)]) ?_ 7 _ rfl; (with_reducible repeat (first | refine blk_drewN ?_ _ | refine blk_drew ?_ | refine blk_alloc ?_ _)); refine blk_put (cs := #[.int .i64 0, .slice none 0 0, .slice none 0 0, .int .i64 ((rd_T41 l1_0 x9_1).f3.f0), .int .i64 ((rd_T41 l1_0 x9_1).f3.f1), .int .i64 ((rd_T41 l1_0 x9_1).f3.f2), .int .i64 0, .slice none 0 0, .string (⟨#[]⟩ : ByteArray)]) ?_ 6 _ rfl; (with_reducible repeat (first | refine blk_drewN ?_ _ | refine blk_drew ?_ | refine blk_alloc ?_ _)); refine blk_put (cs := #[.int .i64 0, .slice none 0 0, .slice none 0 0, .int .i64 ((rd_T41 l1_0 x9_1).f3.f0), .int .i64 ((rd_T41 l1_0 x9_1).f3.f1), .int .i64 0, .int .i64 0, .slice none 0 0, .string (⟨#[]⟩ : ByteArray)]) ?_ 5 _ rfl; (with_reducible repeat (first | refine blk_drewN ?_ _ | refine blk_drew ?_ | refine blk_alloc ?_ _)); refine blk_put (cs := #[.int .i64 0, .slice none 0 0, .slice none 0 0, .int .i64 ((rd_T41 l1_0 x9_1).f3.f0), .int .i64 0, .int .i64 0, .int .i64 0, .slice none 0 0, .string (⟨#[]⟩ : ByteArray)]) ?_ 4 _ rfl; (with_reducible repeat (first | refine blk_drewN ?_ _ | refine blk_drew ?_ | refine blk_alloc ?_ _)); refine blk_put (cs := #[.int .i64 0, .slice none 0 0, .slice none 0 0, .int .i64 0, .int .i64 0, .int .i64 0, .int .i64 0, .slice none 0 0, .string (⟨#[]⟩ : ByteArray)]) ?_ 3 _ rfl; (with_reducible repeat (first | refine blk_drewN ?_ _ | refine blk_drew ?_ | refine blk_alloc ?_ _)); refine blk_put (cs := #[.int .i64 0, .slice none 0 0, .slice none 0 0, .int .i64 0, .int .i64 0, .int .i64 0, .int .i64 0, .slice none 0 0, .string (⟨#[]⟩ : ByteArray)]) ?_ 2 _ rfl; (with_reducible repeat (first | refine blk_drewN ?_ _ | refine blk_drew ?_ | refine blk_alloc ?_ _)); refine blk_put (cs := #[.int .i64 0, .slice none 0 0, .slice none 0 0, .int .i64 0, .int .i64 0, .int .i64 0, .int .i64 0, .slice none 0 0, .string (⟨#[]⟩ : ByteArray)]) ?_ 1 _ rfl; (with_reducible repeat (first | refine blk_drewN ?_ _ | refine blk_drew ?_ | refine blk_alloc ?_ _)); refine blk_put (cs := #[.int .i64 0, .slice none 0 0, .slice none 0 0, .int .i64 0, .int .i64 0, .int .i64 0, .int .i64 0, .slice none 0 0, .string (⟨#[]⟩ : ByteArray)]) ?_ 0 _ rfl; (with_reducible repeat (first | refine blk_drewN ?_ _ | refine blk_drew ?_ | refine blk_alloc ?_ _)); exact BK580.out) k_ hk)); (case aO => exact (by (with_reducible repeat (first | apply Kd.S_alloc | apply Kd.S_drewN | apply Kd.S_drew)); exact Kd.S_mono (Kd.S_far (p := ⟨gb580, 8, none⟩) (Kd.S_far (p := ⟨gb580, 7, none⟩) (Kd.S_far (p := ⟨gb580, 6, none⟩) (Kd.S_far (p := ⟨gb580, 5, none⟩) (Kd.S_far (p := ⟨gb580, 4, none⟩) (Kd.S_far (p := ⟨gb580, 3, none⟩) (Kd.S_far (p := ⟨gb580, 2, none⟩) (Kd.S_far (p := ⟨gb580, 1, none⟩) (Kd.S_far (p := ⟨gb580, 0, none⟩) (Kd.S_mono HO_579000.out (fun k_ hk => (⟨hk, hk.2⟩ : _ ∧ k_ ≠ gb580))) (fun _ hk => hk.2) (.int .i64 0)) (fun _ hk => hk.2) (.slice none 0 0)) (fun _ hk => hk.2) (.slice none 0 0)) (fun _ hk => hk.2) (.int .i64 ((rd_T41 l1_0 x9_1).f3.f0))) (fun _ hk => hk.2) (.int .i64 ((rd_T41 l1_0 x9_1).f3.f1))) (fun _ hk => hk.2) (.int .i64 ((rd_T41 l1_0 x9_1).f3.f2))) (fun _ hk => hk.2) (.int .i64 ((rd_T41 l1_0 x9_1).f3.f3))) (fun _ hk => hk.2) (.slice none 0 0)) (fun _ hk => hk.2) (.string (⟨#[]⟩ : ByteArray))) (fun k_ hk => ⟨hk.1.2, fun e_ => e_⟩))); (case aS => exact (below_size (qW HB.out))); (case aL => have := LMc19.out; omega); intro v582 w30 ho hb hg hat; rw [← Ny581.out] at ho; replace BK571 := Aside0.mk (blk_grown (g := gb571) (o := .cells #[.int .i64 a0_0, .int .i64 a0_1, .slice A0_2 l0_2.length c0_2] 29 (0, 0)) (by (with_reducible repeat (first | refine blk_drewN ?_ _ | refine blk_drew ?_ | refine blk_alloc ?_ _)); refine blk_far ?_ NB571_580.out _; (with_reducible repeat (first | refine blk_drewN ?_ _ | refine blk_drew ?_ | refine blk_alloc ?_ _)); refine blk_far ?_ NB571_580.out _; (with_reducible repeat (first | refine blk_drewN ?_ _ | refine blk_drew ?_ | refine blk_alloc ?_ _)); refine blk_far ?_ NB571_580.out _; (with_reducible repeat (first | refine blk_drewN ?_ _ | refine blk_drew ?_ | refine blk_alloc ?_ _)); refine blk_far ?_ NB571_580.out _; (with_reducible repeat (first | refine blk_drewN ?_ _ | refine blk_drew ?_ | refine blk_alloc ?_ _)); refine blk_far ?_ NB571_580.out _; (with_reducible repeat (first | refine blk_drewN ?_ _ | refine blk_drew ?_ | refine blk_alloc ?_ _)); refine blk_far ?_ NB571_580.out _; (with_reducible repeat (first | refine blk_drewN ?_ _ | refine blk_drew ?_ | refine blk_alloc ?_ _)); refine blk_far ?_ NB571_580.out _; (with_reducible repeat (first | refine blk_drewN ?_ _ | refine blk_drew ?_ | refine blk_alloc ?_ _)); refine blk_far ?_ NB571_580.out _; (with_reducible repeat (first | refine blk_drewN ?_ _ | refine blk_drew ?_ | refine blk_alloc ?_ _)); refine blk_far ?_ NB571_580.out _; (with_reducible repeat (first | refine blk_drewN ?_ _ | refine blk_drew ?_ | refine blk_alloc ?_ _)); exact BK571.out) hg (Kd.S_ne HO_579000.out BK571.out (by decide))); replace BK572 := Aside0.mk (blk_grown (g := gb572) (o := .cells #[.slice (some ad579) l1_0.length c1_0] 32 (0, 0)) (by (with_reducible repeat (first | refine blk_drewN ?_ _ | refine blk_drew ?_ | refine blk_alloc ?_ _)); refine blk_far ?_ NB572_580.out _; (with_reducible repeat (first | refine blk_drewN ?_ _ | refine blk_drew ?_ | refine blk_alloc ?_ _)); refine blk_far ?_ NB572_580.out _; (with_reducible repeat (first | refine blk_drewN ?_ _ | refine blk_drew ?_ | refine blk_alloc ?_ _)); refine blk_far ?_ NB572_580.out _; (with_reducible repeat (first | refine blk_drewN ?_ _ | refine blk_drew ?_ | refine blk_alloc ?_ _)); refine blk_far ?_ NB572_580.out _; (with_reducible repeat (first | refine blk_drewN ?_ _ | refine blk_drew ?_ | refine blk_alloc ?_ _)); refine blk_far ?_ NB572_580.out _; (with_reducible repeat (first | refine blk_drewN ?_ _ | refine blk_drew ?_ | refine blk_alloc ?_ _)); refine blk_far ?_ NB572_580.out _; (with_reducible repeat (first | refine blk_drewN ?_ _ | refine blk_drew ?_ | refine blk_alloc ?_ _)); refine blk_far ?_ NB572_580.out _; (with_reducible repeat (first | refine blk_drewN ?_ _ | refine blk_drew ?_ | refine blk_alloc ?_ _)); refine blk_far ?_ NB572_580.out _; (with_reducible repeat (first | refine blk_drewN ?_ _ | refine blk_drew ?_ | refine blk_alloc ?_ _)); refine blk_far ?_ NB572_580.out _; (with_reducible repeat (first | refine blk_drewN ?_ _ | refine blk_drew ?_ | refine blk_alloc ?_ _)); exact BK572.out) hg (Kd.S_ne HO_579000.out BK572.out (by decide))); replace BK578 := Aside0.mk (blk_grown (g := gb578) (o := .cells #[u579000] 32 (0, 0)) (by (with_reducible repeat (first | refine blk_drewN ?_ _ | refine blk_drew ?_ | refine blk_alloc ?_ _)); refine blk_far ?_ NB578_580.out _; (with_reducible repeat (first | refine blk_drewN ?_ _ | refine blk_drew ?_ | refine blk_alloc ?_ _)); refine blk_far ?_ NB578_580.out _; (with_reducible repeat (first | refine blk_drewN ?_ _ | refine blk_drew ?_ | refine blk_alloc ?_ _)); refine blk_far ?_ NB578_580.out _; (with_reducible repeat (first | refine blk_drewN ?_ _ | refine blk_drew ?_ | refine blk_alloc ?_ _)); refine blk_far ?_ NB578_580.out _; (with_reducible repeat (first | refine blk_drewN ?_ _ | refine blk_drew ?_ | refine blk_alloc ?_ _)); refine blk_far ?_ NB578_580.out _; (with_reducible repeat (first | refine blk_drewN ?_ _ | refine blk_drew ?_ | refine blk_alloc ?_ _)); refine blk_far ?_ NB578_580.out _; (with_reducible repeat (first | refine blk_drewN ?_ _ | refine blk_drew ?_ | refine blk_alloc ?_ _)); refine blk_far ?_ NB578_580.out _; (with_reducible repeat (first | refine blk_drewN ?_ _ | refine blk_drew ?_ | refine blk_alloc ?_ _)); refine blk_far ?_ NB578_580.out _; (with_reducible repeat (first | refine blk_drewN ?_ _ | refine blk_drew ?_ | refine blk_alloc ?_ _)); refine blk_far ?_ NB578_580.out _; (with_reducible repeat (first | refine blk_drewN ?_ _ | refine blk_drew ?_ | refine blk_alloc ?_ _)); exact BK578.out) hg (Kd.S_ne HO_579000.out BK578.out (by decide))); replace BK580 := Aside0.mk (blk_grown (g := gb580) (o := .cells #[.int .i64 0, .slice none 0 0, .slice none 0 0, .int .i64 ((rd_T41 l1_0 x9_1).f3.f0), .int .i64 ((rd_T41 l1_0 x9_1).f3.f1), .int .i64 ((rd_T41 l1_0 x9_1).f3.f2), .int .i64 ((rd_T41 l1_0 x9_1).f3.f3), .slice none 0 0, .string (⟨#[]⟩ : ByteArray)] 41 (0, 0)) (by (with_reducible repeat (first | refine blk_drewN ?_ _ | refine blk_drew ?_ | refine blk_alloc ?_ _)); refine blk_put (cs := #[.int .i64 0, .slice none 0 0, .slice none 0 0, .int .i64 ((rd_T41 l1_0 x9_1).f3.f0), .int .i64 ((rd_T41 l1_0 x9_1).f3.f1), .int .i64 ((rd_T41 l1_0 x9_1).f3.f2), .int .i64 ((rd_T41 l1_0 x9_1).f3.f3), .slice none 0 0, .string (⟨#[]⟩ : ByteArray)]) ?_ 8 _ rfl; (with_reducible repeat (first | refine blk_drewN ?_ _ | refine blk_drew ?_ | refine blk_alloc ?_ _)); refine blk_put (cs := #[.int .i64 0, .slice none 0 0, .slice none 0 0, .int .i64 ((rd_T41 l1_0 x9_1).f3.f0), .int .i64 ((rd_T41 l1_0 x9_1).f3.f1), .int .i64 ((rd_T41 l1_0 x9_1).f3.f2), .int .i64 ((rd_T41 l1_0 x9_1).f3.f3), .slice none 0 0, .string (⟨#[]⟩ : ByteArray)]) ?_ 7 _ rfl; (with_reducible repeat (first | refine blk_drewN ?_ _ | refine blk_drew ?_ | refine blk_alloc ?_ _)); refine blk_put (cs := #[.int .i64 0, .slice none 0 0, .slice none 0 0, .int .i64 ((rd_T41 l1_0 x9_1).f3.f0), .int .i64 ((rd_T41 l1_0 x9_1).f3.f1), .int .i64 ((rd_T41 l1_0 x9_1).f3.f2), .int .i64 0, .slice none 0 0, .string (⟨#[]⟩ : ByteArray)]) ?_ 6 _ rfl; (with_reducible repeat (first | refine blk_drewN ?_ _ | refine blk_drew ?_ | refine blk_alloc ?_ _)); refine blk_put (cs := #[.int .i64 0, .slice none 0 0, .slice none 0 0, .int .i64 ((rd_T41 l1_0 x9_1).f3.f0), .int .i64 ((rd_T41 l1_0 x9_1).f3.f1), .int .i64 0, .int .i64 0, .slice none 0 0, .string (⟨#[]⟩ : ByteArray)]) ?_ 5 _ rfl; (with_reducible repeat (first | refine blk_drewN ?_ _ | refine blk_drew ?_ | refine blk_alloc ?_ _)); refine blk_put (cs := #[.int .i64 0, .slice none 0 0, .slice none 0 0, .int .i64 ((rd_T41 l1_0 x9_1).f3.f0), .int .i64 0, .int .i64 0, .int .i64 0, .slice none 0 0, .string (⟨#[]⟩ : ByteArray)]) ?_ 4 _ rfl; (with_reducible repeat (first | refine blk_drewN ?_ _ | refine blk_drew ?_ | refine blk_alloc ?_ _)); refine blk_put (cs := #[.int .i64 0, .slice none 0 0, .slice none 0 0, .int .i64 0, .int .i64 0, .int .i64 0, .int .i64 0, .slice none 0 0, .string (⟨#[]⟩ : ByteArray)]) ?_ 3 _ rfl; (with_reducible repeat (first | refine blk_drewN ?_ _ | refine blk_drew ?_ | refine blk_alloc ?_ _)); refine blk_put (cs := #[.int .i64 0, .slice none 0 0, .slice none 0 0, .int .i64 0, .int .i64 0, .int .i64 0, .int .i64 0, .slice none 0 0, .string (⟨#[]⟩ : ByteArray)]) ?_ 2 _ rfl; (with_reducible repeat (first | refine blk_drewN ?_ _ | refine blk_drew ?_ | refine blk_alloc ?_ _)); refine blk_put (cs := #[.int .i64 0, .slice none 0 0, .slice none 0 0, .int .i64 0, .int .i64 0, .int .i64 0, .int .i64 0, .slice none 0 0, .string (⟨#[]⟩ : ByteArray)]) ?_ 1 _ rfl; (with_reducible repeat (first | refine blk_drewN ?_ _ | refine blk_drew ?_ | refine blk_alloc ?_ _)); refine blk_put (cs := #[.int .i64 0, .slice none 0 0, .slice none 0 0, .int .i64 0, .int .i64 0, .int .i64 0, .int .i64 0, .slice none 0 0, .string (⟨#[]⟩ : ByteArray)]) ?_ 0 _ rfl; (with_reducible repeat (first | refine blk_drewN ?_ _ | refine blk_drew ?_ | refine blk_alloc ?_ _)); exact BK580.out) hg (Kd.S_away HO_579000.out (fun _ hk => hk.2))); replace HB := Aside0.mk (hb); have HO583 := Aside0.mk (ho); clear HO_579000; clear ho hb hg hat; obtain ⟨Ao31, co31, eo31⟩ := Kd.S_slice HO583.out; subst eo31; have hcz32_0 := qC BK578 0 rfl; have hfz32_0 := blk_frozen BK578.out 0))
           go_roundg k1
           case measure => have := HK1.out; omega
           case rel => exact ⟨(wrap64 (x9_1 + 1)), (y581), (.slice Ao31 y581.length co31), (by first | rfl | (simp; done) | (simp [*]; done) | (simp [wrap64]; done)), H', ⟨by have := HK1.out; omega⟩, ⟨by (with_reducible repeat (first | apply Kd.S_alloc | apply Kd.S_drewN | apply Kd.S_drew)); exact Kd.S_mono (Kd.S_far (p := ⟨gb578, 0, none⟩) (Kd.S_types HO583.out BK578.out (by decide)) (fun _ hk => hk.2) (.slice Ao31 y581.length co31)) (fun _ hk => trivial)⟩, ⟨by (with_reducible repeat (first | refine blk_drewN ?_ _ | refine blk_drew ?_ | refine blk_alloc ?_ _)); refine blk_far ?_ NB571_578.out _; (with_reducible repeat (first | refine blk_drewN ?_ _ | refine blk_drew ?_ | refine blk_alloc ?_ _)); exact BK571.out⟩, ⟨by (with_reducible repeat (first | refine blk_drewN ?_ _ | refine blk_drew ?_ | refine blk_alloc ?_ _)); refine blk_far ?_ NB572_578.out _; (with_reducible repeat (first | refine blk_drewN ?_ _ | refine blk_drew ?_ | refine blk_alloc ?_ _)); exact BK572.out⟩, ⟨by (with_reducible repeat (first | refine blk_drewN ?_ _ | refine blk_drew ?_ | refine blk_alloc ?_ _)); refine blk_put (cs := #[u579000]) ?_ 0 _ rfl; (with_reducible repeat (first | refine blk_drewN ?_ _ | refine blk_drew ?_ | refine blk_alloc ?_ _)); exact BK578.out⟩, ⟨by exact qW HB.out⟩⟩
         · rw [if_neg c19] at H
           exact absurd H (by simp)
       · rw [if_neg c18] at H
         exact absurd H (by simp)
     · rw [if_neg c17] at H
       have c17b0 : decide (x9_1 < (l1_0.length : Int)) = false := decide_eq_false c17
       clear c17
       replace H := Option.bind_eq_some_iff.mp H
       obtain ⟨⟨t584, t587⟩, A330, H⟩ := H
       replace H : (if t573 = true then (if t587 = 0 then (some ((t584.length : Int) == 0)) else none) else none) = some r := H
       have A33 := Aside0.mk A330
       clear A330
       by_cases c34 : t573 = true
       · subst c34
         have H1 : (if t587 = 0 then (some ((t584.length : Int) == 0)) else none) = some r := by rw [if_pos rfl] at H; exact H
         clear H
         have H := H1
         clear H1
         by_cases c35 : t587 = 0
         · rw [if_pos c35] at H
           have c35b0 : (t587 == 0) = true := beq_iff_eq.mpr c35
           have c35b1 : (t587 != 0) = false := bne_eq_false_iff_eq.mpr c35
           clear c35
           obtain rfl := Option.some.inj H
           have hnb36 := NB572_571.out
           have hnc36 := NB571_572.out
           have hnb37 := NB572_578.out
           have hnc37 := NB578_572.out
           have hcz38_0 := qC BK572 0 rfl
           have hfz38_0 := blk_frozen BK572.out 0
           have hnb39 := NB571_578.out
           have hnc39 := NB578_571.out
           have hcz40_0 := qC BK571 0 rfl
           have hcz40_1 := qC BK571 1 rfl
           have hcz40_2 := qC BK571 2 rfl
           have hfz40_0 := blk_frozen BK571.out 0
           have hfz40_1 := blk_frozen BK571.out 1
           have hfz40_2 := blk_frozen BK571.out 2
           have hcz41_0 := qC BK578 0 rfl
           have hfz41_0 := blk_frozen BK578.out 0
           obtain ⟨Ao42, co42, eo42⟩ := Kd.S_slice HO_579000.out
           subst eo42
           go_wp2_with (first | ((with_reducible refine gate_callee (f := 13) rfl ?_); refine goesL_ (some 47) rfl rfl Tryz.func13 (by kernel_rfl) rfl #[.agg #[.int .i64 a0_0, .int .i64 a0_1, .slice A0_2 l0_2.length c0_2], .agg #[.slice Ao42 x579000_1.length co42]] rfl (by (try simp only [List.map_toArray, List.map_cons, List.map_nil]); first | done | rfl | (simp only [List.length_drop, List.length_take]; rfl)) ?_; (with_reducible refine (beam_Groups.calls k1 a0_0 a0_1 _ _ l0_2 _ _ x579000_1 t584 t587 _ ?side1 ?side2 ?side3 ?side4 A33.out).mono ?_); (case side1 => repeat (first | exact (Kd.C_below HR0_2.out HB.out) | (with_reducible refine Kd.C_alloc ?_ _) | (with_reducible refine Kd.C_drewN ?_ _) | (with_reducible refine Kd.C_drew ?_))); (case side2 => exact HC0_2.out); (case side3 => repeat (first | exact (Kd.S_reads' HO_579000.out).2.2 | (with_reducible refine Kd.C_alloc ?_ _) | (with_reducible refine Kd.C_drewN ?_ _) | (with_reducible refine Kd.C_drew ?_))); (case side4 => exact (Kd.S_reads' HO_579000.out).2.1); rintro e w43 ⟨v585, rfl, ho0, hb⟩; refine ⟨_, rfl, ?_⟩; replace HO_579000 := Aside0.mk (Kd.S_below (by (with_reducible repeat (first | apply Kd.S_alloc | apply Kd.S_drewN | apply Kd.S_drew)); exact HO_579000.out) hb); have HO586 := Aside0.mk (Kd.S_lower ho0 (below_size (qW HB.out))); replace BK571 := qD BK571 hb; replace BK572 := qD BK572 hb; replace BK578 := qD BK578 hb; replace HB := Aside0.mk (below_step (qW HB.out) hb); (try clear hb); (try clear hb2); (try clear hk); (try clear hi); (try clear ho0); obtain ⟨Ao44, co44, eo44⟩ := Kd.S_slice HO586.out; subst eo44))
           go_ret
           exact ⟨by first | rfl | (simp [errW_none, errW_some] <;> rfl) | (simp [*, errW_none, errW_some] <;> rfl), by exact qW HB.out⟩
         · rw [if_neg c35] at H
           cases H
       · replace c34 := Bool.eq_false_iff.mpr c34
         subst c34
         have H1 : none = some r := by rw [if_neg (show ¬ (false = true) by decide)] at H; exact H
         cases H1
 · rw [if_neg c5] at H
   have c5b0 : (t577 == 0) = false := beq_eq_false_iff_ne.mpr c5
   have c5b1 : (t577 != 0) = true := bne_iff_ne.mpr c5
   obtain rfl := Option.some.inj H
   go_enter Tryz.func9, Tryz.ntmps9
   go_wp2_with (first | ((with_reducible refine gate_dst (N := 2) rfl ?_); (try (refine gate_guard (by rfl) ?_; dsimp only)); refine box_event ?hg (N := 2) ?hd (cs := #[.int .i64 a0_0, .int .i64 a0_1, .slice A0_2 l0_2.length c0_2]) (t := 29) ?hr ?_; (case hd => rfl); (case hg => rfl); (case hr => first | (go_simp; done) | (go_simp; rfl)); intro gb571 hg w61 hbox hb; have BK571 := Aside0.mk (hbox); have GW571 := qT HB hg; have GE571 := qS HB hg; replace HB := Aside0.mk (below_step (qW HB.out) hb); clear hb hbox hg) | ((with_reducible refine gate_dst (N := 3) rfl ?_); (try (refine gate_guard (by rfl) ?_; dsimp only)); refine box_event ?hg (N := 3) ?hd (cs := #[.slice A1_0 l1_0.length c1_0]) (t := 32) ?hr ?_; (case hd => rfl); (case hg => rfl); (case hr => first | (go_simp; done) | (go_simp; rfl)); intro gb572 hg w62 hbox hb; have BK572 := Aside0.mk (hbox); have GW572 := qT HB hg; have GE572 := qS HB hg; replace HB := Aside0.mk (below_step (qW HB.out) hb); have NB571_572 := qL BK571 hg; have NB572_571 := qM BK571 hg; replace BK571 := qD BK571 hb; clear hb hbox hg) | ((with_reducible refine gate_callee (f := 11) rfl ?_); refine goesL_ (some 13) rfl rfl Tryz.func11 (by kernel_rfl) rfl #[] rfl (by (try simp only [List.map_toArray, List.map_cons, List.map_nil]); first | done | rfl | (simp only [List.length_drop, List.length_take]; rfl)) ?_; (with_reducible refine (partitalaw23_shown.calls k  t573 _ A3.out).mono ?_); rintro e w63 ⟨rfl, hb⟩; refine ⟨_, rfl, ?_⟩; replace BK571 := qD BK571 hb; replace BK572 := qD BK572 hb; replace HB := Aside0.mk (below_step (qW HB.out) hb); (try clear hb); (try clear hb2); (try clear hk); (try clear hi); have hnb64 := NB571_572.out; have hnc64 := NB572_571.out; have hcz65_0 := qC BK571 0 rfl; have hcz65_1 := qC BK571 1 rfl; have hcz65_2 := qC BK571 2 rfl; have hfz65_0 := blk_frozen BK571.out 0; have hfz65_1 := blk_frozen BK571.out 1; have hfz65_2 := blk_frozen BK571.out 2; have hcz66_0 := qC BK572 0 rfl; have hfz66_0 := blk_frozen BK572.out 0) | ((with_reducible refine gate_callee (f := 13) rfl ?_); refine goesL_ (some 17) rfl rfl Tryz.func13 (by kernel_rfl) rfl #[.agg #[.int .i64 a0_0, .int .i64 a0_1, .slice A0_2 l0_2.length c0_2], .agg #[.slice A1_0 l1_0.length c1_0]] rfl (by (try simp only [List.map_toArray, List.map_cons, List.map_nil]); first | done | rfl | (simp only [List.length_drop, List.length_take]; rfl)) ?_; (with_reducible refine (beam_Groups.calls k a0_0 a0_1 _ _ l0_2 _ _ l1_0 t574 t577 _ ?side1 ?side2 ?side3 ?side4 A4.out).mono ?_); (case side1 => repeat (first | exact (Kd.C_below HR0_2.out HB.out) | (with_reducible refine Kd.C_alloc ?_ _) | (with_reducible refine Kd.C_drewN ?_ _) | (with_reducible refine Kd.C_drew ?_))); (case side2 => exact HC0_2.out); (case side3 => repeat (first | exact (Kd.C_below HR1_0.out HB.out) | (with_reducible refine Kd.C_alloc ?_ _) | (with_reducible refine Kd.C_drewN ?_ _) | (with_reducible refine Kd.C_drew ?_))); (case side4 => exact HC1_0.out); rintro e w67 ⟨v575, rfl, ho0, hb⟩; refine ⟨_, rfl, ?_⟩; have HO576 := Aside0.mk (Kd.S_lower ho0 (below_size (qW HB.out))); replace BK571 := qD BK571 hb; replace BK572 := qD BK572 hb; replace HB := Aside0.mk (below_step (qW HB.out) hb); (try clear hb); (try clear hb2); (try clear hk); (try clear hi); (try clear ho0)))
   go_ret
   exact ⟨by first | rfl | (simp [errW_none, errW_some] <;> rfl) | (simp [*, errW_none, errW_some] <;> rfl), by exact qW HB.out⟩

end Go.Proofs.YtocjbedacnlaaaaGreatDoor.Q
