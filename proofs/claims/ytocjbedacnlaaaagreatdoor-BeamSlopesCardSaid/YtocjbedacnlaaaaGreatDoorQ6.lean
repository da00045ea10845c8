-- Written by a program of this session (myprint.py), function by function.
import Derived.Test.YtocjbedacnlaaaaGreatDoorQ0
import Derived.Test.YtocjbedacnlaaaaGreatDoorQ1
import Derived.Deep.RegionLaw
import Derived.IntWalk
import Derived.Laws.CopyOwn
import Derived.Laws.MakeOwn
import Derived.LoopIn
import Derived.LoopNIn
import Derived.Maps.AppendAt
import Derived.OwnWalkIn
import Derived.RangeFuncBound
import Derived.RangeFuncBox
import Derived.RangeFuncCalls
import Derived.RangeFuncLeaves
import Derived.RangeFuncNested
import Derived.Shelf.Abstract
import Derived.Shelf.RegionOpen
import Derived.TacticsInMore
import Derived.Test.YtocjbedacnlaaaaGreatDoorHandA
import Derived.Test.YtocjbedacnlaaaaGreatDoorSmallMost
import Derived.WalkKit
namespace Go.Proofs.YtocjbedacnlaaaaGreatDoor.Q
open Go.RowKit Go.Proofs.YtocjbedacnlaaaaGreatDoorW.PrintWords Go.Proofs.YtocjbedacnlaaaaGreatDoorW.PrintLast Go.Proofs.YtocjbedacnlaaaaGreatDoorW.PrintMore
attribute [local go_sem] max2_int min2_int max_two min_two max_three min_three max_four min_four   -- for this text's walks alone
set_option linter.unusedVariables false
set_option linter.unusedSimpArgs false

attribute [local go_sem high] eqA43
/-! ### api_Pitch_103: function 103 -/
def api_Pitch_103.l0 : Nat → List (S43) → Int → Int → Int → Int → Int → Option (Int)
 | 0, _, _, _, _, _, _ => none
 | k + 1, x0, x7, x8, x149000, x149001, x149002 => if x8 < x7 then (if 0 ≤ x8 then (if x8 < (x0.length : Int) then (if (x149000 == ((rd_T43 x0 x8).f0) && (x149001 == ((rd_T43 x0 x8).f1) && (x149002 == ((rd_T43 x0 x8).f2)))) = true then (some x8) else (api_Pitch_103.l0 k x0 x7 (wrap64 (x8 + 1)) x149000 x149001 x149002)) else (none)) else (none)) else (some (-1))
def api_Pitch_103.f (k : Nat) (l0 : List (S43)) (a1_0 : Int) (a1_1 : Int) (a1_2 : Int) : Option (Int) := api_Pitch_103.l0 k l0 (l0.length : Int) 0 a1_0 a1_1 a1_2
theorem api_Pitch_103.mono_l : ∀ k, (∀ y0 y1 y2 y3 y4 y5, LeO (api_Pitch_103.l0 k y0 y1 y2 y3 y4 y5) (api_Pitch_103.l0 (k + 1) y0 y1 y2 y3 y4 y5))
 | 0 => fun _ _ _ _ _ _ r h => by simp [api_Pitch_103.l0] at h
 | k + 1 => by
  have ih0 := api_Pitch_103.mono_l k
  · intro y0 y1 y2 y3 y4 y5
    unfold api_Pitch_103.l0
    repeat' first
    | (with_reducible exact ih0 _ _ _ _ _ _)
    | (with_reducible exact LeO.refl _)
    | (with_reducible exact LeO.none _)
    | (with_reducible refine LeO.ite ?_ ?_)
    | (with_reducible refine LeO.bind ?_ (fun _ => ?_))
    | exact ih0 _ _ _ _ _ _
    | exact LeO.none _
    | refine LeO.ite ?_ ?_
    | refine LeO.bind ?_ (fun _ => ?_)
theorem api_Pitch_103.mono : ∀ a0 a1 a2 a3 k, LeO (api_Pitch_103.f k a0 a1 a2 a3) (api_Pitch_103.f (k + 1) a0 a1 a2 a3) := by
 intro a0 a1 a2 a3 k
 have ih0 := api_Pitch_103.mono_l k
 unfold api_Pitch_103.f
 repeat' first
  | (with_reducible exact ih0 _ _ _ _ _ _)
  | (with_reducible exact LeO.refl _)
  | (with_reducible exact LeO.none _)
  | (with_reducible refine LeO.ite ?_ ?_)
  | (with_reducible refine LeO.bind ?_ (fun _ => ?_))
  | exact ih0 _ _ _ _ _ _
  | exact LeO.none _
  | refine LeO.ite ?_ ?_
  | refine LeO.bind ?_ (fun _ => ?_)
set_option maxHeartbeats 8000000 in
set_option maxRecDepth 100000 in
theorem api_Pitch_103.calls (k : Nat) (A0 : Option Addr) (c0 : Nat) (l0 : List (S43)) (a1_0 : Int) (a1_1 : Int) (a1_2 : Int) (r : Int) (w : World) (hr0 : Kd.C k43 w A0 l0.length l0) (hc0 : l0.length ≤ c0) (h : api_Pitch_103.f k l0 a1_0 a1_1 a1_2 = some r) :
 Calls Tryz.prog 103 #[.slice A0 l0.length c0, .agg #[.int .i64 a1_0, .int .i64 a1_1, .int .i64 a1_2]] w fun e w' => e = .returned (.int .i64 r) ∧ Below w.heap.size w w' := by
 have hu43 := Tryz.underlying43
 have HR0 := Aside0.mk hr0
 have HC0 := Aside0.mk hc0
 clear hr0 hc0
 have HB := Aside0.mk (Below.refl w.heap.size w)
 have H : (api_Pitch_103.l0 k l0 (l0.length : Int) 0 a1_0 a1_1 a1_2) = some r := h
 clear h
 have H' := Aside0.mk H
 clear H
 go_enter Tryz.func103, Tryz.ntmps103
 go_wp2_with (first | ((with_reducible refine gate_dst (N := 3) rfl ?_); refine box_event ?hg (N := 3) ?hd (cs := #[.int .i64 a1_0, .int .i64 a1_1, .int .i64 a1_2]) (t := 43) ?hr ?_; (case hd => rfl); (case hg => rfl); (case hr => first | (go_simp; done) | (go_simp; rfl)); intro gb148 hg w3 hbox hb; have n0_ := Aside0.mk (below_step (by repeat (first | (with_reducible first | exact HB.out | apply below_alloc | apply pw_below_drewN | apply below_drew1) | exact HB.out)) hb); have n1_ := Aside0.mk (hbox); have n2_ := Aside0.mk ((by rw [hg]; exact (below_size (by repeat (first | (with_reducible first | exact HB.out | apply below_alloc | apply pw_below_drewN | apply below_drew1) | exact HB.out))) : w.heap.size ≤ gb148)); have n3_ := Aside0.mk ((by rw [hg]; exact (below_size (by repeat (first | (with_reducible first | exact HB.out | apply below_alloc | apply pw_below_drewN | apply below_drew1) | exact HB.out))) : w.heap.size ≤ gb148)); clear HB; have HB := n0_; have BK148 := n1_; have GW148 := n2_; have GE148 := n3_; clear n0_ n1_ n2_ n3_; clear hb hbox hg))
 repeat (go_quiet (first | ((with_reducible refine gate_dst (N := 3) rfl ?_); refine box_event ?hg (N := 3) ?hd (cs := #[.int .i64 a1_0, .int .i64 a1_1, .int .i64 a1_2]) (t := 43) ?hr ?_; (case hd => rfl); (case hg => rfl); (case hr => first | (go_simp; done) | (go_simp; rfl)); intro gb148 hg w3 hbox hb; have n0_ := Aside0.mk (below_step (by repeat (first | (with_reducible first | exact HB.out | apply below_alloc | apply pw_below_drewN | apply below_drew1) | exact HB.out)) hb); have n1_ := Aside0.mk (hbox); have n2_ := Aside0.mk ((by rw [hg]; exact (below_size (by repeat (first | (with_reducible first | exact HB.out | apply below_alloc | apply pw_below_drewN | apply below_drew1) | exact HB.out))) : w.heap.size ≤ gb148)); have n3_ := Aside0.mk ((by rw [hg]; exact (below_size (by repeat (first | (with_reducible first | exact HB.out | apply below_alloc | apply pw_below_drewN | apply below_drew1) | exact HB.out))) : w.heap.size ≤ gb148)); clear HB; have HB := n0_; have BK148 := n1_; have GW148 := n2_; have GE148 := n3_; clear n0_ n1_ n2_ n3_; clear hb hbox hg)); try go_wp2_with (first | ((with_reducible refine gate_dst (N := 3) rfl ?_); refine box_event ?hg (N := 3) ?hd (cs := #[.int .i64 a1_0, .int .i64 a1_1, .int .i64 a1_2]) (t := 43) ?hr ?_; (case hd => rfl); (case hg => rfl); (case hr => first | (go_simp; done) | (go_simp; rfl)); intro gb148 hg w3 hbox hb; have n0_ := Aside0.mk (below_step (by repeat (first | (with_reducible first | exact HB.out | apply below_alloc | apply pw_below_drewN | apply below_drew1) | exact HB.out)) hb); have n1_ := Aside0.mk (hbox); have n2_ := Aside0.mk ((by rw [hg]; exact (below_size (by repeat (first | (with_reducible first | exact HB.out | apply below_alloc | apply pw_below_drewN | apply below_drew1) | exact HB.out))) : w.heap.size ≤ gb148)); have n3_ := Aside0.mk ((by rw [hg]; exact (below_size (by repeat (first | (with_reducible first | exact HB.out | apply below_alloc | apply pw_below_drewN | apply below_drew1) | exact HB.out))) : w.heap.size ≤ gb148)); clear HB; have HB := n0_; have BK148 := n1_; have GW148 := n2_; have GE148 := n3_; clear n0_ n1_ n2_ n3_; clear hb hbox hg)))
 go_loopg [8] k (fun kq v8 w' => ∃ (x8_1 : Int), v8 = .int .i64 x8_1 ∧ Aside0 (api_Pitch_103.l0 kq l0 (l0.length : Int) x8_1 a1_0 a1_1 a1_2 = some r) ∧ Aside0 (kq ≤ k) ∧ Aside0 (w'.heap[gb148]? = some (.cells #[.int .i64 a1_0, .int .i64 a1_1, .int .i64 a1_2] 43 (0, 0))) ∧ Aside0 (Below w.heap.size w w'))
 case atStart => exact ⟨(0), (by first | rfl | (simp; done) | (simp [*]; done) | (simp [wrap64]; done)), H', ⟨Nat.le_refl _⟩, ⟨by (with_reducible repeat (first | refine blk_drewN ?_ _ | refine blk_drew ?_ | refine blk_alloc ?_ _)); exact BK148.out⟩, ⟨by repeat (first | (with_reducible first | exact HB.out | apply below_alloc | apply pw_below_drewN | apply below_drew1 | refine below_set ?_ GE148.out) | exact HB.out)⟩⟩
 case round =>
  clear H'
  try clear c1
  try clear p2
  obtain ⟨x8_1, rfl, HA, HK1, BK148, HB⟩ := hrel
  cases gk with
  | zero => exact absurd HA.out (by simp [api_Pitch_103.l0])
  | succ k1 =>
   have H := HA.out
   clear HA
   simp only [api_Pitch_103.l0] at H
   by_cases c4 : x8_1 < (l0.length : Int)
   · rw [if_pos c4] at H
     have c4b0 : decide (x8_1 < (l0.length : Int)) = true := decide_eq_true c4
     clear c4
     by_cases c5 : 0 ≤ x8_1
     · rw [if_pos c5] at H
       have c5b0 : decide (0 ≤ x8_1) = true := decide_eq_true c5
       clear c5
       by_cases c6 : x8_1 < (l0.length : Int)
       · rw [if_pos c6] at H
         have c6b0 : decide (x8_1 < (l0.length : Int)) = true := decide_eq_true c6
         clear c6
         by_cases c7 : (a1_0 == ((rd_T43 l0 x8_1).f0) && (a1_1 == ((rd_T43 l0 x8_1).f1) && (a1_2 == ((rd_T43 l0 x8_1).f2)))) = true
         · rw [if_pos c7] at H
           have c7b0 : (a1_0 == ((rd_T43 l0 x8_1).f0) && (a1_1 == ((rd_T43 l0 x8_1).f1) && (a1_2 == ((rd_T43 l0 x8_1).f2)))) = true := c7
           (try (have c7b1 : decide (a1_0 = ((rd_T43 l0 x8_1).f0) && (a1_1 == ((rd_T43 l0 x8_1).f1) && (a1_2 == ((rd_T43 l0 x8_1).f2)))) = true := by simpa using c7))
           (try (have c7b2 : (a1_0 == ((rd_T43 l0 x8_1).f0) && (a1_1 == ((rd_T43 l0 x8_1).f1) && (a1_2 == ((rd_T43 l0 x8_1).f2)))) = true := by simpa using c7))
           clear c7
           obtain rfl := Option.some.inj H
           have hcz8_0 : wr.cell? ⟨gb148, 0, none⟩ = some (.int .i64 a1_0) := (blk_cell BK148.out 0).trans rfl
           have hcz8_1 : wr.cell? ⟨gb148, 1, none⟩ = some (.int .i64 a1_1) := (blk_cell BK148.out 1).trans rfl
           have hcz8_2 : wr.cell? ⟨gb148, 2, none⟩ = some (.int .i64 a1_2) := (blk_cell BK148.out 2).trans rfl
           have hfz8_0 := blk_frozen BK148.out 0
           have hfz8_1 := blk_frozen BK148.out 1
           have hfz8_2 := blk_frozen BK148.out 2
           have p149 : 0 ≤ (x8_1 : Int) := of_decide_eq_true (by first | (with_reducible assumption) | assumption)
           have q149 : x8_1 < (l0.length : Int) := of_decide_eq_true (by first | (with_reducible assumption) | assumption)
           obtain ⟨ad149, e149, hx149_0, hx149_1, hx149_2⟩ := at_T43 HR0.out x8_1 p149 q149
           cases e149
           replace hx149_0 := (HB.out.cell (World.block_lt_of_cell? w _ hx149_0)).trans hx149_0
           replace hx149_1 := (HB.out.cell (World.block_lt_of_cell? w _ hx149_1)).trans hx149_1
           replace hx149_2 := (HB.out.cell (World.block_lt_of_cell? w _ hx149_2)).trans hx149_2
           replace p149 := eq_true p149
           replace q149 := eq_true q149
           go_wp2
           repeat (go_quiet (fail); try go_wp2)
           go_ret
           exact ⟨by first | rfl | (simp [errW_none, errW_some] <;> rfl) | (simp [*, errW_none, errW_some] <;> rfl), by repeat (first | (with_reducible first | exact HB.out | apply below_alloc | apply pw_below_drewN | apply below_drew1 | refine below_set ?_ GE148.out) | exact HB.out)⟩
         · rw [if_neg c7] at H
           have c7b0 : (a1_0 == ((rd_T43 l0 x8_1).f0) && (a1_1 == ((rd_T43 l0 x8_1).f1) && (a1_2 == ((rd_T43 l0 x8_1).f2)))) = false := by simpa using c7
           (try (have c7b1 : decide (a1_0 = ((rd_T43 l0 x8_1).f0) && (a1_1 == ((rd_T43 l0 x8_1).f1) && (a1_2 == ((rd_T43 l0 x8_1).f2)))) = false := by simpa using c7))
           (try (have c7b2 : (a1_0 == ((rd_T43 l0 x8_1).f0) && (a1_1 == ((rd_T43 l0 x8_1).f1) && (a1_2 == ((rd_T43 l0 x8_1).f2)))) = false := by simpa using c7))
           (try (have c7b3 : ¬ (a1_0 = ((rd_T43 l0 x8_1).f0) && (a1_1 == ((rd_T43 l0 x8_1).f1) && (a1_2 == ((rd_T43 l0 x8_1).f2)))) := by simpa using c7))
           clear c7
           have H' := Aside0.mk H
           clear H
           have hcz9_0 : wr.cell? ⟨gb148, 0, none⟩ = some (.int .i64 a1_0) := (blk_cell BK148.out 0).trans rfl
           have hcz9_1 : wr.cell? ⟨gb148, 1, none⟩ = some (.int .i64 a1_1) := (blk_cell BK148.out 1).trans rfl
           have hcz9_2 : wr.cell? ⟨gb148, 2, none⟩ = some (.int .i64 a1_2) := (blk_cell BK148.out 2).trans rfl
           have hfz9_0 := blk_frozen BK148.out 0
           have hfz9_1 := blk_frozen BK148.out 1
           have hfz9_2 := blk_frozen BK148.out 2
           have p149 : 0 ≤ (x8_1 : Int) := of_decide_eq_true (by first | (with_reducible assumption) | assumption)
           have q149 : x8_1 < (l0.length : Int) := of_decide_eq_true (by first | (with_reducible assumption) | assumption)
           obtain ⟨ad149, e149, hx149_0, hx149_1, hx149_2⟩ := at_T43 HR0.out x8_1 p149 q149
           cases e149
           replace hx149_0 := (HB.out.cell (World.block_lt_of_cell? w _ hx149_0)).trans hx149_0
           replace hx149_1 := (HB.out.cell (World.block_lt_of_cell? w _ hx149_1)).trans hx149_1
           replace hx149_2 := (HB.out.cell (World.block_lt_of_cell? w _ hx149_2)).trans hx149_2
           replace p149 := eq_true p149
           replace q149 := eq_true q149
           go_wp2
           repeat (go_quiet (fail); try go_wp2)
           go_roundg k1
           case measure => have := HK1.out; omega
           case rel => exact ⟨(wrap64 (x8_1 + 1)), (by first | rfl | (simp; done) | (simp [*]; done) | (simp [wrap64]; done)), H', ⟨by have := HK1.out; omega⟩, ⟨by (with_reducible repeat (first | refine blk_drewN ?_ _ | refine blk_drew ?_ | refine blk_alloc ?_ _)); exact BK148.out⟩, ⟨by repeat (first | (with_reducible first | exact HB.out | apply below_alloc | apply pw_below_drewN | apply below_drew1 | refine below_set ?_ GE148.out) | exact HB.out)⟩⟩
       · rw [if_neg c6] at H
         exact absurd H (by simp)
     · rw [if_neg c5] at H
       exact absurd H (by simp)
   · rw [if_neg c4] at H
     have c4b0 : decide (x8_1 < (l0.length : Int)) = false := decide_eq_false c4
     clear c4
     obtain rfl := Option.some.inj H
     go_wp2
     repeat (go_quiet (fail); try go_wp2)
     go_ret
     exact ⟨by first | rfl | (simp [errW_none, errW_some] <;> rfl) | (simp [*, errW_none, errW_some] <;> rfl), by repeat (first | (with_reducible first | exact HB.out | apply below_alloc | apply pw_below_drewN | apply below_drew1 | refine below_set ?_ GE148.out) | exact HB.out)⟩

/-! ### api_Pitch_82: function 82 -/
def api_Pitch_82.f (k : Nat) (l0 : List (S43)) (a1_0 : Int) (a1_1 : Int) (a1_2 : Int) : Option (Bool) := (api_Pitch_103.f k l0 a1_0 a1_1 a1_2).bind fun t151 => (some (decide (t151 ≥ 0)))
theorem api_Pitch_82.mono : ∀ a0 a1 a2 a3 k, LeO (api_Pitch_82.f k a0 a1 a2 a3) (api_Pitch_82.f (k + 1) a0 a1 a2 a3) := by
 intro a0 a1 a2 a3 k
 unfold api_Pitch_82.f
 repeat' first
  | (with_reducible exact api_Pitch_103.mono _ _ _ _ _)
  | (with_reducible exact LeO.refl _)
  | (with_reducible exact LeO.none _)
  | (with_reducible refine LeO.ite ?_ ?_)
  | (with_reducible refine LeO.bind ?_ (fun _ => ?_))
  | exact api_Pitch_103.mono _ _ _ _ _
  | exact LeO.none _
  | refine LeO.ite ?_ ?_
  | refine LeO.bind ?_ (fun _ => ?_)
set_option maxHeartbeats 8000000 in
set_option maxRecDepth 100000 in
theorem api_Pitch_82.calls (k : Nat) (A0 : Option Addr) (c0 : Nat) (l0 : List (S43)) (a1_0 : Int) (a1_1 : Int) (a1_2 : Int) (r : Bool) (w : World) (hr0 : Kd.C k43 w A0 l0.length l0) (hc0 : l0.length ≤ c0) (h : api_Pitch_82.f k l0 a1_0 a1_1 a1_2 = some r) :
 Calls Tryz.prog 82 #[.slice A0 l0.length c0, .agg #[.int .i64 a1_0, .int .i64 a1_1, .int .i64 a1_2]] w fun e w' => e = .returned (.bool r) ∧ Below w.heap.size w w' := by
 have hu43 := Tryz.underlying43
 have HR0 := Aside0.mk hr0
 have HC0 := Aside0.mk hc0
 clear hr0 hc0
 have HB := Aside0.mk (Below.refl w.heap.size w)
 have H : ((api_Pitch_103.f k l0 a1_0 a1_1 a1_2).bind fun t151 => (some (decide (t151 ≥ 0)))) = some r := h
 clear h
 replace H := Option.bind_eq_some_iff.mp H
 obtain ⟨t151, A30, H⟩ := H
 replace H : (some (decide (t151 ≥ 0))) = some r := H
 have A3 := Aside0.mk A30
 clear A30
 obtain rfl := Option.some.inj H
 go_enter Tryz.func82, Tryz.ntmps82
 go_wp2_with (first | ((with_reducible refine gate_dst (N := 3) rfl ?_); refine box_event ?hg (N := 3) ?hd (cs := #[.int .i64 a1_0, .int .i64 a1_1, .int .i64 a1_2]) (t := 43) ?hr ?_; (case hd => rfl); (case hg => rfl); (case hr => first | (go_simp; done) | (go_simp; rfl)); intro gb150 hg w4 hbox hb; have n0_ := Aside0.mk (below_step (by repeat (first | (with_reducible first | exact HB.out | apply below_alloc | apply pw_below_drewN | apply below_drew1) | exact HB.out)) hb); have n1_ := Aside0.mk (hbox); have n2_ := Aside0.mk ((by rw [hg]; exact (below_size (by repeat (first | (with_reducible first | exact HB.out | apply below_alloc | apply pw_below_drewN | apply below_drew1) | exact HB.out))) : w.heap.size ≤ gb150)); have n3_ := Aside0.mk ((by rw [hg]; exact (below_size (by repeat (first | (with_reducible first | exact HB.out | apply below_alloc | apply pw_below_drewN | apply below_drew1) | exact HB.out))) : w.heap.size ≤ gb150)); clear HB; have HB := n0_; have BK150 := n1_; have GW150 := n2_; have GE150 := n3_; clear n0_ n1_ n2_ n3_; clear hb hbox hg; have hcz5_0 : w4.cell? ⟨gb150, 0, none⟩ = some (.int .i64 a1_0) := (blk_cell BK150.out 0).trans rfl; have hcz5_1 : w4.cell? ⟨gb150, 1, none⟩ = some (.int .i64 a1_1) := (blk_cell BK150.out 1).trans rfl; have hcz5_2 : w4.cell? ⟨gb150, 2, none⟩ = some (.int .i64 a1_2) := (blk_cell BK150.out 2).trans rfl; have hfz5_0 := blk_frozen BK150.out 0; have hfz5_1 := blk_frozen BK150.out 1; have hfz5_2 := blk_frozen BK150.out 2) | ((with_reducible refine gate_callee (f := 103) rfl ?_); refine goesL_ (some 7) rfl rfl Tryz.func103 (by kernel_rfl) rfl #[.slice A0 l0.length c0, .agg #[.int .i64 a1_0, .int .i64 a1_1, .int .i64 a1_2]] rfl (by (try simp only [List.map_toArray, List.map_cons, List.map_nil]); first | done | rfl | (simp only [List.length_drop, List.length_take]; rfl)) ?_; (with_reducible refine (api_Pitch_103.calls k _ _ l0 a1_0 a1_1 a1_2 t151 _ ?side1 ?side2 A3.out).mono ?_); (case side1 => repeat (first | exact (Kd.C_below HR0.out HB.out) | (with_reducible refine Kd.C_alloc ?_ _) | (with_reducible refine Kd.C_drewN ?_ _) | (with_reducible refine Kd.C_drew ?_))); (case side2 => exact HC0.out); rintro e w6 ⟨rfl, hb⟩; refine ⟨_, rfl, ?_⟩; have n0_ := Aside0.mk (blk_below (qB BK150.out) hb); have n1_ := Aside0.mk (below_step (by repeat (first | (with_reducible first | exact HB.out | apply below_alloc | apply pw_below_drewN | apply below_drew1 | refine below_set ?_ GE150.out) | exact HB.out)) hb); clear BK150; clear HB; have BK150 := n0_; have HB := n1_; clear n0_ n1_; (try clear hb); (try clear hb2); (try clear hk); (try clear hi)))
 go_ret
 exact ⟨by first | rfl | (simp [errW_none, errW_some] <;> rfl) | (simp [*, errW_none, errW_some] <;> rfl), by repeat (first | (with_reducible first | exact HB.out | apply below_alloc | apply pw_below_drewN | apply below_drew1 | refine below_set ?_ GE150.out) | exact HB.out)⟩

/-! ### bits_Mul32: function 110 -/
/-! ### bits_Mul64: function 111 -/
def bits_Mul64.f (a0 : Int) (a1 : Int) : Option (Int × Int) := some (IntKind.u64.wrap ((IntKind.u64.wrap ((IntKind.u64.wrap ((a0 / 4294967296) * (a1 / 4294967296))) + ((IntKind.u64.wrap ((IntKind.u64.wrap ((a0 / 4294967296) * (Go.bits .and .u64 a1 4294967295))) + ((IntKind.u64.wrap ((Go.bits .and .u64 a0 4294967295) * (Go.bits .and .u64 a1 4294967295))) / 4294967296))) / 4294967296))) + ((IntKind.u64.wrap ((Go.bits .and .u64 (IntKind.u64.wrap ((IntKind.u64.wrap ((a0 / 4294967296) * (Go.bits .and .u64 a1 4294967295))) + ((IntKind.u64.wrap ((Go.bits .and .u64 a0 4294967295) * (Go.bits .and .u64 a1 4294967295))) / 4294967296))) 4294967295) + (IntKind.u64.wrap ((Go.bits .and .u64 a0 4294967295) * (a1 / 4294967296))))) / 4294967296)), IntKind.u64.wrap (a0 * a1))
set_option maxHeartbeats 8000000 in
set_option maxRecDepth 100000 in
theorem bits_Mul64.calls (a0 : Int) (a1 : Int) (r1 : Int) (r2 : Int) (w : World) (h : bits_Mul64.f a0 a1 = some (r1, r2)) :
 Calls Tryz.prog 111 #[.int .u64 a0, .int .u64 a1] w fun e w' => e = .returned (.tuple #[.int .u64 r1, .int .u64 r2]) ∧ Drawn0 w w' := by
 have H : (some (IntKind.u64.wrap ((IntKind.u64.wrap ((IntKind.u64.wrap ((a0 / 4294967296) * (a1 / 4294967296))) + ((IntKind.u64.wrap ((IntKind.u64.wrap ((a0 / 4294967296) * (Go.bits .and .u64 a1 4294967295))) + ((IntKind.u64.wrap ((Go.bits .and .u64 a0 4294967295) * (Go.bits .and .u64 a1 4294967295))) / 4294967296))) / 4294967296))) + ((IntKind.u64.wrap ((Go.bits .and .u64 (IntKind.u64.wrap ((IntKind.u64.wrap ((a0 / 4294967296) * (Go.bits .and .u64 a1 4294967295))) + ((IntKind.u64.wrap ((Go.bits .and .u64 a0 4294967295) * (Go.bits .and .u64 a1 4294967295))) / 4294967296))) 4294967295) + (IntKind.u64.wrap ((Go.bits .and .u64 a0 4294967295) * (a1 / 4294967296))))) / 4294967296)), IntKind.u64.wrap (a0 * a1))) = some (r1, r2) := h
 clear h
 simp only [Option.some.injEq, Prod.mk.injEq] at H
 obtain ⟨rfl, rfl⟩ := H
 go_enter Tryz.func111, Tryz.ntmps111
 go_wp2
 go_ret2
 exact ⟨by first | rfl | (simp; done) | (simp [*]; done), by repeat (first | exact Drawn0.refl _ | apply Drawn0.step)⟩

/-! ### bits_Mul: function 94 -/
def bits_Mul.f (a0 : Int) (a1 : Int) : Option (Int × Int) := (bits_Mul64.f a0 a1).bind fun bt152 => (some (bt152.1, bt152.2))
set_option maxHeartbeats 8000000 in
set_option maxRecDepth 100000 in
theorem bits_Mul.calls (a0 : Int) (a1 : Int) (r1 : Int) (r2 : Int) (w : World) (h : bits_Mul.f a0 a1 = some (r1, r2)) :
 Calls Tryz.prog 94 #[.int .u64 a0, .int .u64 a1] w fun e w' => e = .returned (.tuple #[.int .u64 r1, .int .u64 r2]) ∧ Drawn0 w w' := by
 have H : ((bits_Mul64.f a0 a1).bind fun bt152 => (some (bt152.1, bt152.2))) = some (r1, r2) := h
 clear h
 replace H := Option.bind_eq_some_iff.mp H
 obtain ⟨⟨t152, t153⟩, A30, H⟩ := H
 replace H : (some (t152, t153)) = some (r1, r2) := H
 have A3 := Aside0.mk A30
 clear A30
 simp only [Option.some.injEq, Prod.mk.injEq] at H
 obtain ⟨rfl, rfl⟩ := H
 go_enter Tryz.func94, Tryz.ntmps94
 go_wp2_with (first | ((with_reducible refine gate_callee (f := 111) rfl ?_); refine goesL_ (some 25) rfl rfl Tryz.func111 (by kernel_rfl) rfl #[.int .u64 a0, .int .u64 a1] rfl (by (try simp only [List.map_toArray, List.map_cons, List.map_nil]); first | done | rfl | (simp only [List.length_drop, List.length_take]; rfl)) ?_; (with_reducible refine (bits_Mul64.calls a0 a1 t152 t153 _ A3.out).mono ?_); rintro e w' ⟨rfl, ⟨nd, rfl⟩⟩; refine ⟨_, rfl, ?_⟩))
 go_ret2
 exact ⟨by first | rfl | (simp; done) | (simp [*]; done), by repeat (first | exact Drawn0.refl _ | apply Drawn0.step)⟩

/-! ### slices_Repeat_int_int: function 75 -/
theorem Mul_small (m : Int) (h : 0 ≤ m) (h2 : m ≤ 32) : bits_Mul.f 1 m = some (0, m) := by
  unfold bits_Mul.f bits_Mul64.f
  have : ∀ k : Fin 50, (bits_Mul.f 1 (k : Nat)) = some (0, ((k : Nat) : Int)) := by decide +kernel
  have := this ⟨m.toNat, by omega⟩
  simp only [Int.toNat_of_nonneg h] at this
  exact this
theorem made0 (m : Nat) (z : Value) : madeCells #[z] (m * 1) = (List.replicate m z).toArray := by
  unfold madeCells
  apply Array.ext
  · simp
  · intro i h1 h2
    simp [Nat.mod_one]
theorem splice_rep {v z : Value} {m k c : Nat} (h : k + c ≤ m) : splice (List.replicate k v ++ List.replicate (m - k) z) k (List.replicate c v) = List.replicate (k + c) v ++ List.replicate (m - (k + c)) z := by
  unfold splice
  rw [List.take_append_of_le_length (by simp), List.take_of_length_le (by simp), List.drop_append]
  simp only [List.length_replicate, List.drop_replicate, ← List.append_assoc, List.replicate_append_replicate]
  rw [show k - (k + c) = 0 by omega, show m - k - (k + c - k) = m - (k + c) by omega]
  simp
set_option maxHeartbeats 400000 in
set_option maxRecDepth 100000 in
theorem Repeat_ok (v : Int) (m : Nat) (hm : 1 ≤ m) (hm2 : m ≤ 32) (b : Nat) (w : World) (hx : w.heap[b]? = some (.cells #[.int .i64 v] 3 (0, 0))) :
    Calls Tryz.prog 75 #[.slice (some ⟨b, 0, none⟩) 1 1, .int .i64 m] w fun e W => ∃ g, e = .returned (.slice (some ⟨g, 0, none⟩) m m) ∧ w.heap.size ≤ g ∧ W.heap[g]? = some (.cells (List.replicate m (.int .i64 v)).toArray 3 (0, 0)) ∧ Below w.heap.size w W := by
  have hu22 := Tryz.underlying22
  obtain ⟨i3, hi3, hz3, hs3, hb3⟩ := info_parts info3
  have hmk := fun W : World => run_makeSlice (P := Tryz.prog) W 22 3 i3 (.int .i64 0) hu22 hi3 hz3 .i64 .i64 (m : Int) (m : Int) (by omega) (by omega) (by rw [hs3]; omega) (by rw [hb3]; omega) (by omega)
  rw [hs3] at hmk
  simp only [Int.toNat_natCast, Value.cells, made0] at hmk
  have hMul := fun W => bits_Mul.calls 1 (m : Int) 0 m W (Mul_small m (by omega) (by omega))
  have hw1 : IntKind.u64.wrap (m : Int) = m := by rw [IntKind.wrap_u64]; omega
  have hw2 : IntKind.i64.wrap (m : Int) = m := by rw [IntKind.wrap_i64]; omega
  go_enter Tryz.func75, Tryz.ntmps75
  go_upto_region 7 with (fail)
  refine (hMul _).mono ?_
  rintro e w1 ⟨rfl, hb1⟩
  have HB1 := Aside0.mk (Drawn0.below hb1)
  have HX1 := Aside0.mk (blk_below hx (Drawn0.below hb1))
  clear hb1
  go_upto_region 7 with (fail)
  have hG0 := Aside0.mk (blk_new w1 (.cells (Array.replicate m (.int .i64 0)) 3))
  have hX2 := Aside0.mk (blk_alloc HX1.out (.cells (Array.replicate m (.int .i64 0)) 3))
  have hB2 := Aside0.mk (below_alloc HB1.out (.cells (Array.replicate m (.int .i64 0)) 3))
  have hgl : w.heap.size ≤ w1.heap.size := HB1.out.size
  generalize (w1.alloc (.cells (Array.replicate m (.int .i64 0)) 3)) = w2 at *
  generalize w1.heap.size = g at *
  replace hG0 := Aside0.mk (show w2.heap[g]? = some (.cells (List.replicate m (.int .i64 0)).toArray 3 (0, 0)) by rw [List.toArray_replicate]; exact hG0.out)
  have hbl := blk_lt hx
  clear HB1 HX1 hmk hMul hx
  go_wp2_with (first
    | ((with_reducible refine gate_builtin (b := .copy) (xs := #[.tmp 31, .tmp 32]) rfl ?_); refine wpList_copy_splice rfl _ _ 22 22 rfl 3 hu22 (by rw [hi3]; simp [hs3]) _ _ _ _ _ _ rfl rfl g 0 (List.replicate m (.int .i64 0)) 3 hG0.out [.int .i64 v] (by show 1 = min 1 m; omega) (fun _ => ⟨rfl, _, rfl, ?hs⟩) (by simp; omega) (by simp [Value.oneCell']) w.heap.size w hB2.out hgl ?hk; (case hs => (intro j u hj; match j, hj with | 0, hj => (simp at hj; subst hj; exact (blk_cell hX2.out 0).trans rfl))); intro w3 hG3 hB3)
    )
  replace hG3 := Aside0.mk (show w3.heap[g]? = some (.cells (List.replicate 1 (Value.int .i64 v) ++ List.replicate (m - 1) (Value.int .i64 0)).toArray 3 (0, 0)) by
    have h := hG3.out; rw [show splice (List.replicate m (Value.int .i64 0)) 0 [.int .i64 v] = _ from splice_rep (k := 0) (c := 1) (v := .int .i64 v) (z := .int .i64 0) (m := m) (by omega)] at h; simpa using h)
  replace hB3 := Aside0.mk hB3
  clear hG0 hX2 hB2
  go_loopw [8] (fun n8 wr => ∃ k : Nat, 1 ≤ k ∧ k ≤ m ∧ n8 = .int .i64 k ∧ Aside0 (wr.heap[g]? = some (.cells (List.replicate k (Value.int .i64 v) ++ List.replicate (m - k) (Value.int .i64 0)).toArray 3 (0, 0))) ∧ Aside0 (Below w.heap.size w wr)) (fun n8 _ => m - (intOf n8).toNat)
  case atStart => exact ⟨1, by omega, hm, rfl, hG3, hB3⟩
  case round =>
    obtain ⟨k, hk1, hkm, rfl, hGr, hBr⟩ := hrel
    by_cases hlt : k < m
    · have hd : decide ((k : Int) < (m : Int)) = true := by simpa using hlt
      go_upto_region 9 with (fail)
      obtain ⟨c, hc⟩ : ∃ c, c = min k (m - k) := ⟨_, rfl⟩
      have hne : ¬ (m = k) := by omega
      have hpos : ∀ W : World, W.heap[g]? = some (.cells (List.replicate k (Value.int .i64 v) ++ List.replicate (m - k) (Value.int .i64 0)).toArray 3 (0, 0)) → ∀ j u, (List.replicate c (Value.int .i64 v))[j]? = some u → W.cell? ((⟨g, 0, none⟩ : Addr).add j) = some u := by
        intro W hW j u hj
        rw [List.getElem?_replicate] at hj
        split at hj
        · have := Option.some.inj hj; subst this
          rw [Addr.add_mid, Nat.zero_add]
          refine (blk_cell hW j).trans ?_
          rw [List.getElem?_toArray, List.getElem?_append_left (by simp; omega), List.getElem?_replicate, if_pos (by omega)]
        · cases hj
      have hcn : (List.replicate c (Value.int .i64 v)).length = Nat.min k (m - k) := by rw [List.length_replicate]; exact hc
      have hfit : k + (List.replicate c (Value.int .i64 v)).length ≤ (List.replicate k (Value.int .i64 v) ++ List.replicate (m - k) (Value.int .i64 0)).length := by simp; omega
      have h1c : ∀ u ∈ List.replicate c (Value.int .i64 v), u.oneCell' = true := by intro u hu; rw [(List.mem_replicate.1 hu).2]; rfl
      go_region_law (refine step_copy_splice rfl (.tmp 41) (.tmp 44) 22 22 rfl 3 hu22 (by rw [hi3]; simp [hs3]) (some ⟨g, k, none⟩) (some ⟨g, 0, none⟩) (m - k) (m - k) k m (by simp [Act.eval, Act.put]; done) (by simp [Act.eval, Act.put]; done) g k (List.replicate k (Value.int .i64 v) ++ List.replicate (m - k) (Value.int .i64 0)) 3 hGr.out (List.replicate c (Value.int .i64 v)) hcn (fun _ => ⟨rfl, _, rfl, hpos _ hGr.out⟩) hfit h1c w.heap.size w (show Below w.heap.size w wr.drew by first | exact below_drew1 hBr.out | exact hBr.out) hgl ?_; intro w4 hG4 hB4; rw [List.length_replicate])
      have hw4 : IntKind.i64.wrap ((k : Int) + ((min k (m - k) : Nat) : Int)) = ((k + c : Nat) : Int) := by rw [← hc, IntKind.wrap_i64]; omega
      have hG5 := Aside0.mk (show w4.heap[g]? = some (.cells (List.replicate (k + c) (Value.int .i64 v) ++ List.replicate (m - (k + c)) (Value.int .i64 0)).toArray 3 (0, 0)) by rw [← splice_rep (by omega)]; exact hG4.out)
      replace hB4 := Aside0.mk hB4
      clear hG4
      simp only [List.getElem_toArray, List.getElem_cons_succ, List.getElem_cons_zero, Act.put, List.setIfInBounds_toArray, List.set_cons_zero, List.set_cons_succ]
      rw [hw4]
      go_wp2
      go_roundw
      case rel => exact ⟨k + c, by omega, by omega, rfl, hG5, hB4⟩
      case measure => simp [intOf]; omega
    · have hd : decide ((k : Int) < (m : Int)) = false := by simpa using hlt
      obtain rfl : k = m := by omega
      go_wp2
      go_ret
      refine ⟨g, rfl, hgl, ?_, hBr.out⟩
      have := hGr.out
      simpa using this

/-! ### meter_groups: function 57 -/
/-- Blocks of whole numbers, and of a meter, are kept. -/
def TK (X Y : World) : Prop := ∀ (k : Nat) (cs : Array Value) (t : TypeId) (fr : Nat × Nat), X.heap[k]? = some (.cells cs t fr) → (t = 3 ∨ t = 29) → Y.heap[k]? = some (.cells cs t fr)
def KM (B : Nat) (X Y : World) : Prop := X.heap.size ≤ Y.heap.size ∧ (B ≤ X.heap.size → Below B X Y) ∧ TK X Y
theorem KM.trans {B : Nat} {X Y Z : World} (h : KM B X Y) (k : KM B Y Z) : KM B X Z :=
  ⟨Nat.le_trans h.1 k.1, fun hB => (h.2.1 hB).trans (k.2.1 (Nat.le_trans hB h.1)), fun i cs t fr hi ht => k.2.2 i cs t fr (h.2.2 i cs t fr hi ht) ht⟩
theorem KM.of_below {B : Nat} {X Y : World} (h : Below X.heap.size X Y) : KM B X Y :=
  ⟨h.size, fun hB => h.mono hB, fun k cs t fr hk _ => (h.block k ((Array.getElem?_eq_some_iff.1 hk).1)).trans hk⟩
theorem KM.putObj {B : Nat} {w : World} (hB : B ≤ w.heap.size) (W : World) (l : Nat) (o o' : Obj) (hl : w.heap.size ≤ l) (h : W.heap[l]? = some o) (hc : o.isCells = false) (hw : o.isWalk = false) : KM B W (W.putObj l o') := by
  refine ⟨by simp, fun _ => belowK_b hB W l o o' hl h hc hw, fun k cs t fr hk _ => ?_⟩
  by_cases e : k = l
  · subst e; rw [h] at hk; cases hk; cases hc
  · exact (World.putObj_heap_other e).trans hk
/-- How many parts stand together. -/
def grp (n d : Int) (l : List Int) : List Int := if 0 < l.length then l else if 3 < n ∧ n % 3 = 0 ∧ 8 ≤ d then List.replicate (n / 3).toNat 3 else List.replicate n.toNat 1
theorem C_rep {W : World} {g m : Nat} {v : Int} {t : TypeId} (hm : m ≤ 1000) (h : W.heap[g]? = some (.cells (List.replicate m (.int .i64 v)).toArray t (0, 0))) : Kd.C (Kd.int .i64) W (some ⟨g, 0, none⟩) (List.replicate m v).length (List.replicate m v) := by
  refine Kd.C_of_reads (enc := Value.int .i64) (d := (0 : Int)) (h1 := fun _ => rfl) ⟨rfl, by simp; omega, fun _ => ⟨_, rfl, fun j hj => ?_⟩⟩
  rw [List.length_replicate] at hj
  rw [Addr.add_mid, Nat.zero_add]
  refine (blk_cell h j).trans ?_
  rw [List.getElem?_toArray, List.getElem?_replicate, if_pos hj]
  simp [List.getD, hj]
set_option maxHeartbeats 4000000 in
set_option maxRecDepth 100000 in
theorem groups_ok (n d : Int) (A : Option Addr) (c : Nat) (l : List Int) (w0 w : World) (hn : 1 ≤ n) (hn2 : n ≤ 32) (hr : Kd.C (Kd.int .i64) w0 A l.length l) (hc : l.length ≤ c) (hB : Below w0.heap.size w0 w) :
    Calls Tryz.prog 57 #[.agg #[.int .i64 n, .int .i64 d, .slice A l.length c]] w fun e W' => ∃ A c, e = .returned (.slice A (grp n d l).length c) ∧ (∀ W2, KM w0.heap.size W' W2 → Kd.C (Kd.int .i64) W2 A (grp n d l).length (grp n d l)) ∧ Below w.heap.size w W' := by
  have hu22 := Tryz.underlying22
  have hu29 := Tryz.underlying29
  have hB1 := below_alloc (Below.refl w.heap.size w) (.cells #[.int .i64 n, .int .i64 d, .slice A l.length c] 29)
  by_cases h0 : 0 < l.length
  · go_enter Tryz.func57, Tryz.ntmps57
    have hd : decide (0 < (l.length : Int)) = true := by simpa using h0
    have hG : grp n d l = l := by unfold grp; rw [if_pos h0]
    go_wp2
    go_ret
    rw [hG]
    exact ⟨A, c, rfl, fun W2 hk => Kd.C_below hr ((hB.trans (hB1.mono hB.size)).trans (hk.2.1 (Nat.le_trans hB.size hB1.size))), hB1⟩
  · have hl : l = [] := List.eq_nil_of_length_eq_zero (by omega)
    subst hl
    obtain ⟨N, rfl⟩ : ∃ N : Nat, n = N := ⟨n.toNat, by omega⟩
    have hX (v : Int) : ((w.alloc (.cells #[.int .i64 N, .int .i64 d, .slice A 0 c] 29)).alloc (.cells #[.int .i64 v] 3)).heap[w.heap.size + 1]? = some (.cells #[.int .i64 v] 3 (0, 0)) := by
      have := blk_new (w.alloc (.cells #[.int .i64 N, .int .i64 d, .slice A 0 c] 29)) (.cells #[.int .i64 v] 3)
      rwa [World.size_alloc] at this
    have hfin (v : Int) (m : Nat) (hm : m ≤ 32) (hG : grp N d [] = List.replicate m v) (g : Nat) (W' : World) (hg : ((w.alloc (.cells #[.int .i64 N, .int .i64 d, .slice A 0 c] 29)).alloc (.cells #[.int .i64 v] 3)).heap.size ≤ g) (hW : W'.heap[g]? = some (.cells (List.replicate m (.int .i64 v)).toArray 3 (0, 0))) (hb : Below ((w.alloc (.cells #[.int .i64 N, .int .i64 d, .slice A 0 c] 29)).alloc (.cells #[.int .i64 v] 3)).heap.size ((w.alloc (.cells #[.int .i64 N, .int .i64 d, .slice A 0 c] 29)).alloc (.cells #[.int .i64 v] 3)) W') :
        ∃ A' c', (Value.slice (some ⟨g, 0, none⟩) m m) = .slice A' (grp N d []).length c' ∧ (∀ W2, KM w0.heap.size W' W2 → Kd.C (Kd.int .i64) W2 A' (grp N d []).length (grp N d [])) ∧ Below w.heap.size w W' := by
      rw [hG]
      refine ⟨some ⟨g, 0, none⟩, m, by rw [List.length_replicate], fun W2 hk => C_rep (by omega) (hk.2.2 _ _ _ _ hW (.inl rfl)), ?_⟩
      exact (below_alloc (below_alloc (Below.refl _ _) _) _).trans (hb.mono (by simp; omega))
    by_cases h3 : 3 < (N : Int) ∧ (N : Int) % 3 = 0 ∧ 8 ≤ d
    · have hG : grp N d [] = List.replicate (N / 3) 3 := by unfold grp; rw [if_neg (by simp), if_pos h3]; congr 1
      have hf := hfin 3 (N / 3) (by omega) hG
      obtain ⟨e1, e2, e3⟩ := h3
      have hC := Repeat_ok 3 (N / 3) (by omega) (by omega) (w.heap.size + 1) _ (hX 3)
      clear hX hfin hr
      go_enter Tryz.func57, Tryz.ntmps57
      go_wp2_with (first | (go_at_call 75; refine hC.mono ?_; rintro e W' ⟨g, rfl, hg, hW, hb⟩; clear hC))
      go_ret
      exact Exists.elim (hf g W' hg hW hb) fun A' h => Exists.elim h fun c' h => ⟨A', c', congrArg Ending.returned h.1, h.2⟩
    · have hG : grp N d [] = List.replicate N 1 := by unfold grp; rw [if_neg (by simp), if_neg h3]; congr 1
      have hf := hfin 1 N (by omega) hG
      have hC := Repeat_ok 1 N (by omega) (by omega) (w.heap.size + 1) _ (hX 1)
      clear hX hfin hr
      go_enter Tryz.func57, Tryz.ntmps57
      go_wp2_with (first | (go_at_call 75; refine hC.mono ?_; rintro e W' ⟨g, rfl, hg, hW, hb⟩))
      all_goals go_ret
      all_goals exact Exists.elim (hf g W' hg hW hb) fun A' h => Exists.elim h fun c' h => ⟨A', c', congrArg Ending.returned h.1, h.2⟩

/-! ### ratio_abs: function 76 -/
def absU (a : Int) : Int := if a < 0 then IntKind.u64.wrap (-(IntKind.u64.wrap a)) else IntKind.u64.wrap a
def ratio_abs.f (a0 : Int) : Option Int := some (absU a0)
theorem ratio_abs.calls (a0 : Int) (r : Int) (w : World) (h : ratio_abs.f a0 = some r) :
    Calls Tryz.prog 76 #[.int .i64 a0] w fun e w' => e = .returned (.int .u64 r) ∧ Drawn0 w w' := by
  obtain rfl := Option.some.inj h
  unfold absU
  by_cases c2 : a0 < 0
  · rw [if_pos c2]
    have c2b0 : decide (a0 < 0) = true := decide_eq_true c2
    clear c2 h
    go_enter Tryz.func76, Tryz.ntmps76
    go_wp2
    go_ret
    exact ⟨rfl, Drawn0.refl _⟩
  · rw [if_neg c2]
    have c2b0 : decide (a0 < 0) = false := decide_eq_false c2
    clear c2 h
    go_enter Tryz.func76, Tryz.ntmps76
    go_wp2
    go_ret
    exact ⟨rfl, Drawn0.refl _⟩

/-! ### ratio_common: function 77 -/
def ratio_common.f (a0 a1 : Int) : Option Int := if 0 ≤ a0 ∧ 0 ≤ a1 then some (Int.gcd a0 a1) else none
theorem gcd_step {a b : Int} (ha : 0 ≤ a) (hb : 0 ≤ b) : (Int.gcd b (a % b) : Int) = Int.gcd a b := by
  obtain ⟨m, rfl⟩ := Int.eq_ofNat_of_zero_le ha
  obtain ⟨n, rfl⟩ := Int.eq_ofNat_of_zero_le hb
  rw [← Int.natCast_emod]
  simp only [Int.gcd_natCast_natCast]
  rw [Nat.gcd_comm m n, Nat.gcd_rec n m, Nat.gcd_comm]
set_option maxHeartbeats 400000 in
theorem ratio_common.go (n : Nat) : ∀ (a0 a1 : Int) (w : World), 0 ≤ a0 → 0 ≤ a1 → a1 < n →
    Calls Tryz.prog 77 #[.int .u64 a0, .int .u64 a1] w fun e w' => e = .returned (.int .u64 (Int.gcd a0 a1)) ∧ Drawn0 w w' := by
  induction n with
  | zero => intro a0 a1 w h0 h1 h2; omega
  | succ n ih =>
    intro a0 a1 w h0 h1 h2
    by_cases c : a1 = 0
    · subst c
      have hg : ((Int.gcd a0 0 : Nat) : Int) = a0 := by simp; omega
      rw [hg]
      clear hg ih
      go_enter Tryz.func77, Tryz.ntmps77
      go_wp2
      go_ret
      exact ⟨rfl, Drawn0.refl _⟩
    · rw [← gcd_step h0 h1]
      have hlt : a0 % a1 < n := by have := Int.emod_lt_of_pos a0 (show 0 < a1 by omega); omega
      have hge : 0 ≤ a0 % a1 := Int.emod_nonneg _ c
      have c3b0 : (a1 == 0) = false := beq_eq_false_iff_ne.mpr c
      have c3b1 : (a1 != 0) = true := bne_iff_ne.mpr c
      have IH := ih a1 ((a0 % a1))
      generalize hr : (Int.gcd a1 ((a0 % a1)) : Int) = r
      rw [hr] at IH
      have IH2 := Aside0.mk IH
      clear IH ih hr
      go_enter Tryz.func77, Tryz.ntmps77
      go_wp2_with (go_at_call 77; (with_reducible refine (IH2.out _ h1 hge hlt).mono ?_); rintro e w' ⟨rfl, ⟨nd, rfl⟩⟩)
      go_ret
      exact ⟨rfl, _, rfl⟩
theorem ratio_common.calls (a0 a1 : Int) (r : Int) (w : World) (h : ratio_common.f a0 a1 = some r) :
    Calls Tryz.prog 77 #[.int .u64 a0, .int .u64 a1] w fun e w' => e = .returned (.int .u64 r) ∧ Drawn0 w w' := by
  unfold ratio_common.f at h
  split at h
  next hc => obtain rfl := Option.some.inj h; exact ratio_common.go (a1.toNat + 1) a0 a1 w hc.1 hc.2 (by omega)
  next => cases h


/-! ### ratio_Right: function 62 -/
theorem absU_nonneg (a : Int) : 0 ≤ absU a := by
  have h : ∀ x, 0 ≤ IntKind.u64.wrap x := fun x => by simp only [IntKind.wrap]; simp [IntKind.signed, IntKind.bits]; omega
  unfold absU; split <;> exact h _
def rightB (n d : Int) : Bool := decide (1 ≤ d) && (decide (mx (absU n) (absU d) ≤ 1000000000) && ((Int.gcd (absU n) (absU d) : Int) == 1))
theorem abs_q (a0 : Int) (w : World) (n : Nat) : Calls Tryz.prog 76 #[.int .i64 a0] (w.drewN n) fun e w' => e = .returned (.int .u64 (absU a0)) ∧ ∃ m, w' = w.drewN m := by
  refine (ratio_abs.calls a0 _ _ rfl).mono ?_
  rintro e w' ⟨rfl, ⟨m, rfl⟩⟩
  exact ⟨rfl, _, World.drewN_drewN _ _ _⟩
theorem common_q (a0 a1 : Int) (w : World) (n : Nat) (h0 : 0 ≤ a0) (h1 : 0 ≤ a1) : Calls Tryz.prog 77 #[.int .u64 a0, .int .u64 a1] (w.drewN n) fun e w' => e = .returned (.int .u64 (Int.gcd a0 a1)) ∧ ∃ m, w' = w.drewN m := by
  refine (ratio_common.calls a0 a1 _ _ (by unfold ratio_common.f; rw [if_pos ⟨h0, h1⟩])).mono ?_
  rintro e w' ⟨rfl, ⟨m, rfl⟩⟩
  exact ⟨rfl, _, World.drewN_drewN _ _ _⟩
set_option maxHeartbeats 1000000 in
set_option maxRecDepth 100000 in
theorem ratio_Right.any (a b : Int) (w : World) :
    Calls Tryz.prog 62 #[.agg #[.int .i64 a, .int .i64 b]] w fun e w' => e = .returned (.bool (rightB a b)) ∧ Below w.heap.size w w' := by
  unfold rightB
  have ha := absU_nonneg a
  have hb := absU_nonneg b
  have HB := Aside0.mk (Below.refl w.heap.size w)
  by_cases c1 : 1 ≤ b
  · have d1 : decide (1 ≤ b) = true := decide_eq_true c1
    rw [d1, Bool.true_and]
    clear c1
    by_cases c2 : mx (absU a) (absU b) ≤ 1000000000
    · have c3 : decide ((if absU a < absU b then absU b else absU a) ≤ 1000000000) = true := decide_eq_true c2
      rw [decide_eq_true c2, Bool.true_and]
      clear c2
      go_enter Tryz.func62, Tryz.ntmps62
      go_wp2
      go_quiet (first | (go_at_call 76; exact abs_q _ _ _) | (go_at_call 77; exact common_q _ _ _ _ (by assumption) (by assumption)))
      go_wp2
      all_goals
        go_ret
        exact ⟨rfl, by repeat (first | exact HB.out | apply below_alloc | apply pw_below_drewN)⟩
    · have c3 : decide ((if absU a < absU b then absU b else absU a) ≤ 1000000000) = false := decide_eq_false c2
      rw [decide_eq_false c2, Bool.false_and]
      clear c2
      go_enter Tryz.func62, Tryz.ntmps62
      go_wp2
      go_quiet (first | (go_at_call 76; exact abs_q _ _ _) | (go_at_call 77; exact common_q _ _ _ _ (by assumption) (by assumption)))
      go_wp2
      all_goals
        go_ret
        exact ⟨rfl, by repeat (first | exact HB.out | apply below_alloc | apply pw_below_drewN)⟩
  · have d1 : decide (1 ≤ b) = false := decide_eq_false c1
    rw [d1, Bool.false_and]
    clear c1
    go_enter Tryz.func62, Tryz.ntmps62
    go_wp2
    go_quiet (fail)
    go_wp2
    go_ret
    exact ⟨rfl, by repeat (first | exact HB.out | apply below_alloc | apply pw_below_drewN)⟩
def ratio_Right.f (a0_0 a0_1 : Int) : Option Bool := some (rightB a0_0 a0_1)
theorem ratio_Right.calls (a b : Int) (r : Bool) (w : World) (h : ratio_Right.f a b = some r) :
    Calls Tryz.prog 62 #[.agg #[.int .i64 a, .int .i64 b]] w fun e w' => e = .returned (.bool r) ∧ Below w.heap.size w w' := by
  obtain rfl := Option.some.inj h
  exact ratio_Right.any a b w
theorem Right_eq {a b : Int} {x : Bool} (h : rightB a b = x) (w : World) :
    Calls Tryz.prog 62 #[.agg #[.int .i64 a, .int .i64 b]] w fun e w' => e = .returned (.bool x) ∧ Below w.heap.size w w' := h ▸ ratio_Right.any a b w

/-! ### ratio_Compare: function 42 -/
def cmpD (a b c d : Int) : Int := wrap64 (wrap64 (a * d) - wrap64 (c * b))
def cmpI (a b c d : Int) : Int := if (rightB a b && (rightB c d && !(cmpD a b c d == 0))) = true then (if cmpD a b c d < 0 then -1 else 1) else 0
def ratio_Compare.f (a b c d : Int) : Option Int := some (cmpI a b c d)
theorem bcell {W w1 : World} (hb : Below W.heap.size W w1) : (∀ b o, b < W.heap.size → w1.cell? ⟨b, o, none⟩ = W.cell? ⟨b, o, none⟩) ∧ (∀ b o, b < W.heap.size → w1.frozen? ⟨b, o, none⟩ = W.frozen? ⟨b, o, none⟩) :=
  ⟨fun b o h => hb.cell (p := ⟨b, o, none⟩) h, fun b o h => hb.frozen (p := ⟨b, o, none⟩) h⟩
set_option maxHeartbeats 1000000 in
set_option maxRecDepth 100000 in
theorem ratio_Compare.calls (a b c d r : Int) (w : World) (h : ratio_Compare.f a b c d = some r) :
    Calls Tryz.prog 42 #[.agg #[.int .i64 a, .int .i64 b], .agg #[.int .i64 c, .int .i64 d]] w fun e w' => e = .returned (.int .i64 r) ∧ Below w.heap.size w w' := by
  have h0 : cmpI a b c d = r := Option.some.inj h
  unfold cmpI cmpD at h0
  clear h
  have HB := Aside0.mk (Below.refl w.heap.size w)
  by_cases h1 : rightB a b = true
  · rw [h1, Bool.true_and] at h0
    have R := Aside0.mk (Right_eq h1)
    clear h1
    by_cases h2 : rightB c d = true
    · rw [h2, Bool.true_and] at h0
      have RR := Aside0.mk (Right_eq h2)
      clear h2
      generalize hE : wrap64 (wrap64 (a * d) - wrap64 (c * b)) = E at h0
      by_cases h3 : E = 0
      · have e1 : (E == 0) = true := beq_iff_eq.mpr h3
        rw [e1, if_neg (by decide)] at h0
        have HE := Aside0.mk (hE.trans h3)
        subst h0
        clear h3 e1 hE
        go_enter Tryz.func42, Tryz.ntmps42
        go_wp2_with (first | (go_at_call 62; (with_reducible refine (R.out _).mono ?_); rintro e w1 ⟨rfl, hb⟩; obtain ⟨hc1, hf1⟩ := bcell hb; rw [HE.out]) | (go_at_call 62; (with_reducible refine (RR.out _).mono ?_); rintro e w2 ⟨rfl, hb2⟩))
        go_ret
        exact ⟨rfl, ((by repeat (first | exact HB.out | apply below_alloc) : Below w.heap.size w _).trans (hb.mono (by simp; omega))).trans (hb2.mono (by have := hb.size; simp at this; omega))⟩
      · have e1 : (E == 0) = false := beq_eq_false_iff_ne.mpr h3
        rw [e1, if_pos (by decide)] at h0
        have HE := Aside0.mk hE
        clear hE h3
        by_cases h4 : E < 0
        · have e4 : decide (E < 0) = true := decide_eq_true h4
          rw [if_pos h4] at h0
          subst h0
          clear h4
          go_enter Tryz.func42, Tryz.ntmps42
          go_wp2_with (first | (go_at_call 62; (with_reducible refine (R.out _).mono ?_); rintro e w1 ⟨rfl, hb⟩; obtain ⟨hc1, hf1⟩ := bcell hb; rw [HE.out]) | (go_at_call 62; (with_reducible refine (RR.out _).mono ?_); rintro e w2 ⟨rfl, hb2⟩))
          go_ret
          exact ⟨rfl, ((by repeat (first | exact HB.out | apply below_alloc) : Below w.heap.size w _).trans (hb.mono (by simp; omega))).trans (hb2.mono (by have := hb.size; simp at this; omega))⟩
        · have e4 : decide (E < 0) = false := decide_eq_false h4
          rw [if_neg h4] at h0
          subst h0
          clear h4
          go_enter Tryz.func42, Tryz.ntmps42
          go_wp2_with (first | (go_at_call 62; (with_reducible refine (R.out _).mono ?_); rintro e w1 ⟨rfl, hb⟩; obtain ⟨hc1, hf1⟩ := bcell hb; rw [HE.out]) | (go_at_call 62; (with_reducible refine (RR.out _).mono ?_); rintro e w2 ⟨rfl, hb2⟩))
          go_ret
          exact ⟨rfl, ((by repeat (first | exact HB.out | apply below_alloc) : Below w.heap.size w _).trans (hb.mono (by simp; omega))).trans (hb2.mono (by have := hb.size; simp at this; omega))⟩
    · replace h2 := Bool.eq_false_iff.mpr h2
      rw [h2, Bool.false_and, if_neg (by decide)] at h0
      have RR := Aside0.mk (Right_eq h2)
      subst h0
      clear h2
      go_enter Tryz.func42, Tryz.ntmps42
      go_wp2_with (first | (go_at_call 62; (with_reducible refine (R.out _).mono ?_); rintro e w1 ⟨rfl, hb⟩; obtain ⟨hc1, hf1⟩ := bcell hb) | (go_at_call 62; (with_reducible refine (RR.out _).mono ?_); rintro e w2 ⟨rfl, hb2⟩))
      go_ret
      exact ⟨rfl, ((by repeat (first | exact HB.out | apply below_alloc) : Below w.heap.size w _).trans (hb.mono (by simp; omega))).trans (hb2.mono (by have := hb.size; simp at this; omega))⟩
  · replace h1 := Bool.eq_false_iff.mpr h1
    rw [h1, Bool.false_and, if_neg (by decide)] at h0
    have R := Aside0.mk (Right_eq h1)
    subst h0
    clear h1
    go_enter Tryz.func42, Tryz.ntmps42
    go_wp2_with (go_at_call 62; (with_reducible refine (R.out _).mono ?_); rintro e w1 ⟨rfl, hb⟩)
    go_ret
    exact ⟨rfl, (by repeat (first | exact HB.out | apply below_alloc) : Below w.heap.size w _).trans (hb.mono (by simp; omega))⟩

/-! ### ratio_Of: function 58 -/
def ratio_Of.f (a0 : Int) (a1 : Int) : Option (Int × Int × Int) := if a1 = 0 then (some (0, 0, 11)) else ((ratio_abs.f a0).bind fun t155 => ((ratio_abs.f a1).bind fun t156 => ((ratio_common.f t155 t156).bind fun t157 => (if t157 = 0 then (none) else (if (mx (IntKind.u64.wrap (Int.tdiv t155 t157)) (IntKind.u64.wrap (Int.tdiv t156 t157))) > 1000000000 then (some (0, 0, 10)) else (if ((decide (a0 < 0)) != (decide (a1 < 0))) = true then (some (wrap64 (-(wrap64 (IntKind.u64.wrap (Int.tdiv t155 t157)))), wrap64 (IntKind.u64.wrap (Int.tdiv t156 t157)), 0)) else (some (wrap64 (IntKind.u64.wrap (Int.tdiv t155 t157)), wrap64 (IntKind.u64.wrap (Int.tdiv t156 t157)), 0))))))))
set_option maxHeartbeats 8000000 in
set_option maxRecDepth 100000 in
theorem ratio_Of.calls (a0 : Int) (a1 : Int) (r1 : Int) (r2 : Int) (r3 : Int) (w : World) (h : ratio_Of.f a0 a1 = some (r1, r2, r3)) :
 Calls Tryz.prog 58 #[.int .i64 a0, .int .i64 a1] w fun e w' => e = .returned (.tuple #[.agg #[.int .i64 r1, .int .i64 r2], .int .i64 r3]) ∧ Below w.heap.size w w' := by
 have hu72 := Tryz.underlying72
 have HB := Aside0.mk (Below.refl w.heap.size w)
 have H : (if a1 = 0 then (some (0, 0, 11)) else ((ratio_abs.f a0).bind fun t155 => ((ratio_abs.f a1).bind fun t156 => ((ratio_common.f t155 t156).bind fun t157 => (if t157 = 0 then (none) else (if (mx (IntKind.u64.wrap (Int.tdiv t155 t157)) (IntKind.u64.wrap (Int.tdiv t156 t157))) > 1000000000 then (some (0, 0, 10)) else (if ((decide (a0 < 0)) != (decide (a1 < 0))) = true then (some (wrap64 (-(wrap64 (IntKind.u64.wrap (Int.tdiv t155 t157)))), wrap64 (IntKind.u64.wrap (Int.tdiv t156 t157)), 0)) else (some (wrap64 (IntKind.u64.wrap (Int.tdiv t155 t157)), wrap64 (IntKind.u64.wrap (Int.tdiv t156 t157)), 0))))))))) = some (r1, r2, r3) := h
 clear h
 by_cases c3 : a1 = 0
 · rw [if_pos c3] at H
   have c3b0 : (a1 == 0) = true := beq_iff_eq.mpr c3
   have c3b1 : (a1 != 0) = false := bne_eq_false_iff_eq.mpr c3
   clear c3
   simp only [Option.some.injEq, Prod.mk.injEq] at H
   obtain ⟨rfl, rfl, rfl⟩ := H
   go_enter Tryz.func58, Tryz.ntmps58
   go_wp2_with (first | ((with_reducible refine gate_dst (N := 4) rfl ?_); refine box_event ?hg (N := 4) ?hd (cs := #[.int .i64 0, .int .i64 0]) (t := 72) ?hr ?_; (case hd => rfl); (case hg => rfl); (case hr => first | (go_simp; done) | (go_simp; rfl)); intro gb154 hg w4 hbox hb; have BK154 := Aside0.mk (hbox); have GW154 := qT HB hg; have GE154 := qS HB hg; replace HB := Aside0.mk (below_step (qW HB.out) hb); clear hb hbox hg; have hcz5_0 := qC BK154 0 rfl; have hcz5_1 := qC BK154 1 rfl; have hfz5_0 := blk_frozen BK154.out 0; have hfz5_1 := blk_frozen BK154.out 1))
   repeat (go_quiet (first | ((with_reducible refine gate_dst (N := 4) rfl ?_); refine box_event ?hg (N := 4) ?hd (cs := #[.int .i64 0, .int .i64 0]) (t := 72) ?hr ?_; (case hd => rfl); (case hg => rfl); (case hr => first | (go_simp; done) | (go_simp; rfl)); intro gb154 hg w4 hbox hb; have BK154 := Aside0.mk (hbox); have GW154 := qT HB hg; have GE154 := qS HB hg; replace HB := Aside0.mk (below_step (qW HB.out) hb); clear hb hbox hg; have hcz5_0 := qC BK154 0 rfl; have hcz5_1 := qC BK154 1 rfl; have hfz5_0 := blk_frozen BK154.out 0; have hfz5_1 := blk_frozen BK154.out 1)); try go_wp2_with (first | ((with_reducible refine gate_dst (N := 4) rfl ?_); refine box_event ?hg (N := 4) ?hd (cs := #[.int .i64 0, .int .i64 0]) (t := 72) ?hr ?_; (case hd => rfl); (case hg => rfl); (case hr => first | (go_simp; done) | (go_simp; rfl)); intro gb154 hg w4 hbox hb; have BK154 := Aside0.mk (hbox); have GW154 := qT HB hg; have GE154 := qS HB hg; replace HB := Aside0.mk (below_step (qW HB.out) hb); clear hb hbox hg; have hcz5_0 := qC BK154 0 rfl; have hcz5_1 := qC BK154 1 rfl; have hfz5_0 := blk_frozen BK154.out 0; have hfz5_1 := blk_frozen BK154.out 1)))
   refine bodyPost_ret (results_ct rfl _ _ gb154 72 #[.int .i64 0, .int .i64 0] (0, 0) _ rfl (by (with_reducible repeat (first | refine blk_drewN ?_ _ | refine blk_drew ?_ | refine blk_alloc ?_ _)); refine blk_put (cs := #[.int .i64 0, .int .i64 0]) ?_ 1 _ rfl; (with_reducible repeat (first | refine blk_drewN ?_ _ | refine blk_drew ?_ | refine blk_alloc ?_ _)); refine blk_put (cs := #[.int .i64 0, .int .i64 0]) ?_ 0 _ rfl; (with_reducible repeat (first | refine blk_drewN ?_ _ | refine blk_drew ?_ | refine blk_alloc ?_ _)); exact BK154.out) Tryz.underlying72 rfl (by kernel_rfl)) rfl ?_
   exact ⟨by first | rfl | (simp [errW_none, errW_some] <;> rfl) | (simp [*, errW_none, errW_some] <;> rfl), by exact qW HB.out⟩
 · rw [if_neg c3] at H
   have c3b0 : (a1 == 0) = false := beq_eq_false_iff_ne.mpr c3
   have c3b1 : (a1 != 0) = true := bne_iff_ne.mpr c3
   replace H := Option.bind_eq_some_iff.mp H
   obtain ⟨t155, A60, H⟩ := H
   replace H : ((ratio_abs.f a1).bind fun t156 => ((ratio_common.f t155 t156).bind fun t157 => (if t157 = 0 then (none) else (if (mx (IntKind.u64.wrap (Int.tdiv t155 t157)) (IntKind.u64.wrap (Int.tdiv t156 t157))) > 1000000000 then (some (0, 0, 10)) else (if ((decide (a0 < 0)) != (decide (a1 < 0))) = true then (some (wrap64 (-(wrap64 (IntKind.u64.wrap (Int.tdiv t155 t157)))), wrap64 (IntKind.u64.wrap (Int.tdiv t156 t157)), 0)) else (some (wrap64 (IntKind.u64.wrap (Int.tdiv t155 t157)), wrap64 (IntKind.u64.wrap (Int.tdiv t156 t157)), 0))))))) = some (r1, r2, r3) := H
   have A6 := Aside0.mk A60
   clear A60
   replace H := Option.bind_eq_some_iff.mp H
   obtain ⟨t156, A70, H⟩ := H
   replace H : ((ratio_common.f t155 t156).bind fun t157 => (if t157 = 0 then (none) else (if (mx (IntKind.u64.wrap (Int.tdiv t155 t157)) (IntKind.u64.wrap (Int.tdiv t156 t157))) > 1000000000 then (some (0, 0, 10)) else (if ((decide (a0 < 0)) != (decide (a1 < 0))) = true then (some (wrap64 (-(wrap64 (IntKind.u64.wrap (Int.tdiv t155 t157)))), wrap64 (IntKind.u64.wrap (Int.tdiv t156 t157)), 0)) else (some (wrap64 (IntKind.u64.wrap (Int.tdiv t155 t157)), wrap64 (IntKind.u64.wrap (Int.tdiv t156 t157)), 0)))))) = some (r1, r2, r3) := H
   have A7 := Aside0.mk A70
   clear A70
   replace H := Option.bind_eq_some_iff.mp H
   obtain ⟨t157, A80, H⟩ := H
   replace H : (if t157 = 0 then (none) else (if (mx (IntKind.u64.wrap (Int.tdiv t155 t157)) (IntKind.u64.wrap (Int.tdiv t156 t157))) > 1000000000 then (some (0, 0, 10)) else (if ((decide (a0 < 0)) != (decide (a1 < 0))) = true then (some (wrap64 (-(wrap64 (IntKind.u64.wrap (Int.tdiv t155 t157)))), wrap64 (IntKind.u64.wrap (Int.tdiv t156 t157)), 0)) else (some (wrap64 (IntKind.u64.wrap (Int.tdiv t155 t157)), wrap64 (IntKind.u64.wrap (Int.tdiv t156 t157)), 0))))) = some (r1, r2, r3) := H
   have A8 := Aside0.mk A80
   clear A80
   by_cases c9 : t157 = 0
   · rw [if_pos c9] at H
     exact absurd H (by simp)
   · rw [if_neg c9] at H
     have c9b0 : (t157 == 0) = false := beq_eq_false_iff_ne.mpr c9
     have c9b1 : (t157 != 0) = true := bne_iff_ne.mpr c9
     obtain ⟨ji10, hji10⟩ : ∃ j_ : Int, (mx (IntKind.u64.wrap (Int.tdiv t155 t157)) (IntKind.u64.wrap (Int.tdiv t156 t157))) = j_ := ⟨_, rfl⟩
     replace H : (if (ji10) > 1000000000 then (some (0, 0, 10)) else (if ((decide (a0 < 0)) != (decide (a1 < 0))) = true then (some (wrap64 (-(wrap64 (IntKind.u64.wrap (Int.tdiv t155 t157)))), wrap64 (IntKind.u64.wrap (Int.tdiv t156 t157)), 0)) else (some (wrap64 (IntKind.u64.wrap (Int.tdiv t155 t157)), wrap64 (IntKind.u64.wrap (Int.tdiv t156 t157)), 0)))) = some (r1, r2, r3) := by first | (rw [hji10] at H; exact H) | (simp only [hji10] at H ⊢; exact H)
     (try rw [hji10] at A6)
     (try rw [hji10] at A7)
     (try rw [hji10] at A8)
     have hji10_ : (if (IntKind.u64.wrap (Int.tdiv t155 t157)) < (IntKind.u64.wrap (Int.tdiv t156 t157)) then (IntKind.u64.wrap (Int.tdiv t156 t157)) else (IntKind.u64.wrap (Int.tdiv t155 t157))) = ji10 := hji10
     by_cases c11 : (ji10) > 1000000000
     · rw [if_pos c11] at H
       have c11b0 : decide (1000000000 < (ji10)) = true := decide_eq_true c11
       clear c11
       simp only [Option.some.injEq, Prod.mk.injEq] at H
       obtain ⟨rfl, rfl, rfl⟩ := H
       go_enter Tryz.func58, Tryz.ntmps58
       go_wp2_with (first | ((with_reducible refine gate_dst (N := 4) rfl ?_); refine box_event ?hg (N := 4) ?hd (cs := #[.int .i64 0, .int .i64 0]) (t := 72) ?hr ?_; (case hd => rfl); (case hg => rfl); (case hr => first | (go_simp; done) | (go_simp; rfl)); intro gb154 hg w12 hbox hb; have BK154 := Aside0.mk (hbox); have GW154 := qT HB hg; have GE154 := qS HB hg; replace HB := Aside0.mk (below_step (qW HB.out) hb); clear hb hbox hg) | (go_at_call 76; (with_reducible refine (ratio_abs.calls a0 t155 _ A6.out).mono ?_); rintro e w' ⟨rfl, ⟨nd, rfl⟩⟩; (try first | exact ⟨rfl, _, World.drewN_drewN _ _ _⟩ | exact ⟨rfl, _, Eq.trans (World.drewN_drewN _ _ _) (congrArg (World.drewN _) (Nat.add_assoc _ _ _))⟩)) | (go_at_call 76; (with_reducible refine (ratio_abs.calls a1 t156 _ A7.out).mono ?_); rintro e w' ⟨rfl, ⟨nd, rfl⟩⟩; (try first | exact ⟨rfl, _, World.drewN_drewN _ _ _⟩ | exact ⟨rfl, _, Eq.trans (World.drewN_drewN _ _ _) (congrArg (World.drewN _) (Nat.add_assoc _ _ _))⟩)) | (go_at_call 77; (with_reducible refine (ratio_common.calls t155 t156 t157 _ A8.out).mono ?_); rintro e w' ⟨rfl, ⟨nd, rfl⟩⟩; (try first | exact ⟨rfl, _, World.drewN_drewN _ _ _⟩ | exact ⟨rfl, _, Eq.trans (World.drewN_drewN _ _ _) (congrArg (World.drewN _) (Nat.add_assoc _ _ _))⟩); have hcz13_0 := qC BK154 0 rfl; have hcz13_1 := qC BK154 1 rfl; have hfz13_0 := blk_frozen BK154.out 0; have hfz13_1 := blk_frozen BK154.out 1))
       repeat (go_quiet (first | ((with_reducible refine gate_dst (N := 4) rfl ?_); refine box_event ?hg (N := 4) ?hd (cs := #[.int .i64 0, .int .i64 0]) (t := 72) ?hr ?_; (case hd => rfl); (case hg => rfl); (case hr => first | (go_simp; done) | (go_simp; rfl)); intro gb154 hg w12 hbox hb; have BK154 := Aside0.mk (hbox); have GW154 := qT HB hg; have GE154 := qS HB hg; replace HB := Aside0.mk (below_step (qW HB.out) hb); clear hb hbox hg) | (go_at_call 76; (with_reducible refine (ratio_abs.calls a0 t155 _ A6.out).mono ?_); rintro e w' ⟨rfl, ⟨nd, rfl⟩⟩; (try first | exact ⟨rfl, _, World.drewN_drewN _ _ _⟩ | exact ⟨rfl, _, Eq.trans (World.drewN_drewN _ _ _) (congrArg (World.drewN _) (Nat.add_assoc _ _ _))⟩)) | (go_at_call 76; (with_reducible refine (ratio_abs.calls a1 t156 _ A7.out).mono ?_); rintro e w' ⟨rfl, ⟨nd, rfl⟩⟩; (try first | exact ⟨rfl, _, World.drewN_drewN _ _ _⟩ | exact ⟨rfl, _, Eq.trans (World.drewN_drewN _ _ _) (congrArg (World.drewN _) (Nat.add_assoc _ _ _))⟩)) | (go_at_call 77; (with_reducible refine (ratio_common.calls t155 t156 t157 _ A8.out).mono ?_); rintro e w' ⟨rfl, ⟨nd, rfl⟩⟩; (try first | exact ⟨rfl, _, World.drewN_drewN _ _ _⟩ | exact ⟨rfl, _, Eq.trans (World.drewN_drewN _ _ _) (congrArg (World.drewN _) (Nat.add_assoc _ _ _))⟩); have hcz13_0 := qC BK154 0 rfl; have hcz13_1 := qC BK154 1 rfl; have hfz13_0 := blk_frozen BK154.out 0; have hfz13_1 := blk_frozen BK154.out 1)); try go_wp2_with (first | ((with_reducible refine gate_dst (N := 4) rfl ?_); refine box_event ?hg (N := 4) ?hd (cs := #[.int .i64 0, .int .i64 0]) (t := 72) ?hr ?_; (case hd => rfl); (case hg => rfl); (case hr => first | (go_simp; done) | (go_simp; rfl)); intro gb154 hg w12 hbox hb; have BK154 := Aside0.mk (hbox); have GW154 := qT HB hg; have GE154 := qS HB hg; replace HB := Aside0.mk (below_step (qW HB.out) hb); clear hb hbox hg) | (go_at_call 76; (with_reducible refine (ratio_abs.calls a0 t155 _ A6.out).mono ?_); rintro e w' ⟨rfl, ⟨nd, rfl⟩⟩; (try first | exact ⟨rfl, _, World.drewN_drewN _ _ _⟩ | exact ⟨rfl, _, Eq.trans (World.drewN_drewN _ _ _) (congrArg (World.drewN _) (Nat.add_assoc _ _ _))⟩)) | (go_at_call 76; (with_reducible refine (ratio_abs.calls a1 t156 _ A7.out).mono ?_); rintro e w' ⟨rfl, ⟨nd, rfl⟩⟩; (try first | exact ⟨rfl, _, World.drewN_drewN _ _ _⟩ | exact ⟨rfl, _, Eq.trans (World.drewN_drewN _ _ _) (congrArg (World.drewN _) (Nat.add_assoc _ _ _))⟩)) | (go_at_call 77; (with_reducible refine (ratio_common.calls t155 t156 t157 _ A8.out).mono ?_); rintro e w' ⟨rfl, ⟨nd, rfl⟩⟩; (try first | exact ⟨rfl, _, World.drewN_drewN _ _ _⟩ | exact ⟨rfl, _, Eq.trans (World.drewN_drewN _ _ _) (congrArg (World.drewN _) (Nat.add_assoc _ _ _))⟩); have hcz13_0 := qC BK154 0 rfl; have hcz13_1 := qC BK154 1 rfl; have hfz13_0 := blk_frozen BK154.out 0; have hfz13_1 := blk_frozen BK154.out 1)))
       refine bodyPost_ret (results_ct rfl _ _ gb154 72 #[.int .i64 0, .int .i64 0] (0, 0) _ rfl (by (with_reducible repeat (first | refine blk_drewN ?_ _ | refine blk_drew ?_ | refine blk_alloc ?_ _)); refine blk_put (cs := #[.int .i64 0, .int .i64 0]) ?_ 1 _ rfl; (with_reducible repeat (first | refine blk_drewN ?_ _ | refine blk_drew ?_ | refine blk_alloc ?_ _)); refine blk_put (cs := #[.int .i64 0, .int .i64 0]) ?_ 0 _ rfl; (with_reducible repeat (first | refine blk_drewN ?_ _ | refine blk_drew ?_ | refine blk_alloc ?_ _)); exact BK154.out) Tryz.underlying72 rfl (by kernel_rfl)) rfl ?_
       exact ⟨by first | rfl | (simp [errW_none, errW_some] <;> rfl) | (simp only [← hji10]; first | rfl | (simp [errW_none, errW_some] <;> rfl)) | (simp [*, errW_none, errW_some] <;> rfl), by exact qW HB.out⟩
     · rw [if_neg c11] at H
       have c11b0 : decide (1000000000 < (ji10)) = false := decide_eq_false c11
       clear c11
       by_cases c14 : ((decide (a0 < 0)) != (decide (a1 < 0))) = true
       · rw [if_pos c14] at H
         have c14b0 : ((decide (a0 < 0)) != (decide (a1 < 0))) = true := c14
         (try (have c14b1 : decide ((decide (a0 < 0)) = (decide (a1 < 0))) = false := by simpa using c14))
         (try (have c14b2 : ((decide (a0 < 0)) == (decide (a1 < 0))) = false := by simpa using c14))
         (try (have c14b3 : ¬ ((decide (a0 < 0)) = (decide (a1 < 0))) := by simpa using c14))
         clear c14
         simp only [Option.some.injEq, Prod.mk.injEq] at H
         obtain ⟨rfl, rfl, rfl⟩ := H
         go_enter Tryz.func58, Tryz.ntmps58
         go_wp2_with (first | ((with_reducible refine gate_dst (N := 4) rfl ?_); refine box_event ?hg (N := 4) ?hd (cs := #[.int .i64 0, .int .i64 0]) (t := 72) ?hr ?_; (case hd => rfl); (case hg => rfl); (case hr => first | (go_simp; done) | (go_simp; rfl)); intro gb154 hg w15 hbox hb; have BK154 := Aside0.mk (hbox); have GW154 := qT HB hg; have GE154 := qS HB hg; replace HB := Aside0.mk (below_step (qW HB.out) hb); clear hb hbox hg) | (go_at_call 76; (with_reducible refine (ratio_abs.calls a0 t155 _ A6.out).mono ?_); rintro e w' ⟨rfl, ⟨nd, rfl⟩⟩; (try first | exact ⟨rfl, _, World.drewN_drewN _ _ _⟩ | exact ⟨rfl, _, Eq.trans (World.drewN_drewN _ _ _) (congrArg (World.drewN _) (Nat.add_assoc _ _ _))⟩)) | (go_at_call 76; (with_reducible refine (ratio_abs.calls a1 t156 _ A7.out).mono ?_); rintro e w' ⟨rfl, ⟨nd, rfl⟩⟩; (try first | exact ⟨rfl, _, World.drewN_drewN _ _ _⟩ | exact ⟨rfl, _, Eq.trans (World.drewN_drewN _ _ _) (congrArg (World.drewN _) (Nat.add_assoc _ _ _))⟩)) | (go_at_call 77; (with_reducible refine (ratio_common.calls t155 t156 t157 _ A8.out).mono ?_); rintro e w' ⟨rfl, ⟨nd, rfl⟩⟩; (try first | exact ⟨rfl, _, World.drewN_drewN _ _ _⟩ | exact ⟨rfl, _, Eq.trans (World.drewN_drewN _ _ _) (congrArg (World.drewN _) (Nat.add_assoc _ _ _))⟩)) | ((with_reducible refine gate_dst (N := 9) rfl ?_); refine box_event ?hg (N := 9) ?hd (cs := #[.int .i64 0, .int .i64 0]) (t := 72) ?hr ?_; (case hd => rfl); (case hg => rfl); (case hr => first | (go_simp; done) | (go_simp; rfl)); intro gb158 hg w16 hbox hb; have BK158 := Aside0.mk (hbox); have GW158 := qT HB hg; have GE158 := qS HB hg; replace HB := Aside0.mk (below_step (qW HB.out) hb); have NB154_158 := qL BK154 hg; have NB158_154 := qM BK154 hg; replace BK154 := qD BK154 hb; clear hb hbox hg; have hnb17 := NB158_154.out; have hnc17 := NB154_158.out; have hcz18_0 := qC BK158 0 rfl; have hcz18_1 := qC BK158 1 rfl; have hfz18_0 := blk_frozen BK158.out 0; have hfz18_1 := blk_frozen BK158.out 1; have hcz19_0 := qC BK154 0 rfl; have hcz19_1 := qC BK154 1 rfl; have hfz19_0 := blk_frozen BK154.out 0; have hfz19_1 := blk_frozen BK154.out 1))
         repeat (go_quiet (first | ((with_reducible refine gate_dst (N := 4) rfl ?_); refine box_event ?hg (N := 4) ?hd (cs := #[.int .i64 0, .int .i64 0]) (t := 72) ?hr ?_; (case hd => rfl); (case hg => rfl); (case hr => first | (go_simp; done) | (go_simp; rfl)); intro gb154 hg w15 hbox hb; have BK154 := Aside0.mk (hbox); have GW154 := qT HB hg; have GE154 := qS HB hg; replace HB := Aside0.mk (below_step (qW HB.out) hb); clear hb hbox hg) | (go_at_call 76; (with_reducible refine (ratio_abs.calls a0 t155 _ A6.out).mono ?_); rintro e w' ⟨rfl, ⟨nd, rfl⟩⟩; (try first | exact ⟨rfl, _, World.drewN_drewN _ _ _⟩ | exact ⟨rfl, _, Eq.trans (World.drewN_drewN _ _ _) (congrArg (World.drewN _) (Nat.add_assoc _ _ _))⟩)) | (go_at_call 76; (with_reducible refine (ratio_abs.calls a1 t156 _ A7.out).mono ?_); rintro e w' ⟨rfl, ⟨nd, rfl⟩⟩; (try first | exact ⟨rfl, _, World.drewN_drewN _ _ _⟩ | exact ⟨rfl, _, Eq.trans (World.drewN_drewN _ _ _) (congrArg (World.drewN _) (Nat.add_assoc _ _ _))⟩)) | (go_at_call 77; (with_reducible refine (ratio_common.calls t155 t156 t157 _ A8.out).mono ?_); rintro e w' ⟨rfl, ⟨nd, rfl⟩⟩; (try first | exact ⟨rfl, _, World.drewN_drewN _ _ _⟩ | exact ⟨rfl, _, Eq.trans (World.drewN_drewN _ _ _) (congrArg (World.drewN _) (Nat.add_assoc _ _ _))⟩)) | ((with_reducible refine gate_dst (N := 9) rfl ?_); refine box_event ?hg (N := 9) ?hd (cs := #[.int .i64 0, .int .i64 0]) (t := 72) ?hr ?_; (case hd => rfl); (case hg => rfl); (case hr => first | (go_simp; done) | (go_simp; rfl)); intro gb158 hg w16 hbox hb; have BK158 := Aside0.mk (hbox); have GW158 := qT HB hg; have GE158 := qS HB hg; replace HB := Aside0.mk (below_step (qW HB.out) hb); have NB154_158 := qL BK154 hg; have NB158_154 := qM BK154 hg; replace BK154 := qD BK154 hb; clear hb hbox hg; have hnb17 := NB158_154.out; have hnc17 := NB154_158.out; have hcz18_0 := qC BK158 0 rfl; have hcz18_1 := qC BK158 1 rfl; have hfz18_0 := blk_frozen BK158.out 0; have hfz18_1 := blk_frozen BK158.out 1; have hcz19_0 := qC BK154 0 rfl; have hcz19_1 := qC BK154 1 rfl; have hfz19_0 := blk_frozen BK154.out 0; have hfz19_1 := blk_frozen BK154.out 1)); try go_wp2_with (first | ((with_reducible refine gate_dst (N := 4) rfl ?_); refine box_event ?hg (N := 4) ?hd (cs := #[.int .i64 0, .int .i64 0]) (t := 72) ?hr ?_; (case hd => rfl); (case hg => rfl); (case hr => first | (go_simp; done) | (go_simp; rfl)); intro gb154 hg w15 hbox hb; have BK154 := Aside0.mk (hbox); have GW154 := qT HB hg; have GE154 := qS HB hg; replace HB := Aside0.mk (below_step (qW HB.out) hb); clear hb hbox hg) | (go_at_call 76; (with_reducible refine (ratio_abs.calls a0 t155 _ A6.out).mono ?_); rintro e w' ⟨rfl, ⟨nd, rfl⟩⟩; (try first | exact ⟨rfl, _, World.drewN_drewN _ _ _⟩ | exact ⟨rfl, _, Eq.trans (World.drewN_drewN _ _ _) (congrArg (World.drewN _) (Nat.add_assoc _ _ _))⟩)) | (go_at_call 76; (with_reducible refine (ratio_abs.calls a1 t156 _ A7.out).mono ?_); rintro e w' ⟨rfl, ⟨nd, rfl⟩⟩; (try first | exact ⟨rfl, _, World.drewN_drewN _ _ _⟩ | exact ⟨rfl, _, Eq.trans (World.drewN_drewN _ _ _) (congrArg (World.drewN _) (Nat.add_assoc _ _ _))⟩)) | (go_at_call 77; (with_reducible refine (ratio_common.calls t155 t156 t157 _ A8.out).mono ?_); rintro e w' ⟨rfl, ⟨nd, rfl⟩⟩; (try first | exact ⟨rfl, _, World.drewN_drewN _ _ _⟩ | exact ⟨rfl, _, Eq.trans (World.drewN_drewN _ _ _) (congrArg (World.drewN _) (Nat.add_assoc _ _ _))⟩)) | ((with_reducible refine gate_dst (N := 9) rfl ?_); refine box_event ?hg (N := 9) ?hd (cs := #[.int .i64 0, .int .i64 0]) (t := 72) ?hr ?_; (case hd => rfl); (case hg => rfl); (case hr => first | (go_simp; done) | (go_simp; rfl)); intro gb158 hg w16 hbox hb; have BK158 := Aside0.mk (hbox); have GW158 := qT HB hg; have GE158 := qS HB hg; replace HB := Aside0.mk (below_step (qW HB.out) hb); have NB154_158 := qL BK154 hg; have NB158_154 := qM BK154 hg; replace BK154 := qD BK154 hb; clear hb hbox hg; have hnb17 := NB158_154.out; have hnc17 := NB154_158.out; have hcz18_0 := qC BK158 0 rfl; have hcz18_1 := qC BK158 1 rfl; have hfz18_0 := blk_frozen BK158.out 0; have hfz18_1 := blk_frozen BK158.out 1; have hcz19_0 := qC BK154 0 rfl; have hcz19_1 := qC BK154 1 rfl; have hfz19_0 := blk_frozen BK154.out 0; have hfz19_1 := blk_frozen BK154.out 1)))
         refine bodyPost_ret (results_ct rfl _ _ gb154 72 #[.int .i64 (wrap64 (-(wrap64 (IntKind.u64.wrap (Int.tdiv t155 t157))))), .int .i64 (wrap64 (IntKind.u64.wrap (Int.tdiv t156 t157)))] (0, 0) _ rfl (by (with_reducible repeat (first | refine blk_drewN ?_ _ | refine blk_drew ?_ | refine blk_alloc ?_ _)); refine blk_put (cs := #[.int .i64 (wrap64 (-(wrap64 (IntKind.u64.wrap (Int.tdiv t155 t157))))), .int .i64 0]) ?_ 1 _ rfl; (with_reducible repeat (first | refine blk_drewN ?_ _ | refine blk_drew ?_ | refine blk_alloc ?_ _)); refine blk_put (cs := #[.int .i64 0, .int .i64 0]) ?_ 0 _ rfl; (with_reducible repeat (first | refine blk_drewN ?_ _ | refine blk_drew ?_ | refine blk_alloc ?_ _)); refine blk_far ?_ NB154_158.out _; (with_reducible repeat (first | refine blk_drewN ?_ _ | refine blk_drew ?_ | refine blk_alloc ?_ _)); refine blk_far ?_ NB154_158.out _; (with_reducible repeat (first | refine blk_drewN ?_ _ | refine blk_drew ?_ | refine blk_alloc ?_ _)); refine blk_far ?_ NB154_158.out _; (with_reducible repeat (first | refine blk_drewN ?_ _ | refine blk_drew ?_ | refine blk_alloc ?_ _)); exact BK154.out) Tryz.underlying72 rfl (by kernel_rfl)) rfl ?_
         exact ⟨by first | rfl | (simp [errW_none, errW_some] <;> rfl) | (simp only [← hji10]; first | rfl | (simp [errW_none, errW_some] <;> rfl)) | (simp [*, errW_none, errW_some] <;> rfl), by exact qW HB.out⟩
       · rw [if_neg c14] at H
         have c14b0 : ((decide (a0 < 0)) != (decide (a1 < 0))) = false := by simpa using c14
         (try (have c14b1 : decide ((decide (a0 < 0)) = (decide (a1 < 0))) = true := by simpa using c14))
         (try (have c14b2 : ((decide (a0 < 0)) == (decide (a1 < 0))) = true := by simpa using c14))
         clear c14
         simp only [Option.some.injEq, Prod.mk.injEq] at H
         obtain ⟨rfl, rfl, rfl⟩ := H
         go_enter Tryz.func58, Tryz.ntmps58
         go_wp2_with (first | ((with_reducible refine gate_dst (N := 4) rfl ?_); refine box_event ?hg (N := 4) ?hd (cs := #[.int .i64 0, .int .i64 0]) (t := 72) ?hr ?_; (case hd => rfl); (case hg => rfl); (case hr => first | (go_simp; done) | (go_simp; rfl)); intro gb154 hg w20 hbox hb; have BK154 := Aside0.mk (hbox); have GW154 := qT HB hg; have GE154 := qS HB hg; replace HB := Aside0.mk (below_step (qW HB.out) hb); clear hb hbox hg) | (go_at_call 76; (with_reducible refine (ratio_abs.calls a0 t155 _ A6.out).mono ?_); rintro e w' ⟨rfl, ⟨nd, rfl⟩⟩; (try first | exact ⟨rfl, _, World.drewN_drewN _ _ _⟩ | exact ⟨rfl, _, Eq.trans (World.drewN_drewN _ _ _) (congrArg (World.drewN _) (Nat.add_assoc _ _ _))⟩)) | (go_at_call 76; (with_reducible refine (ratio_abs.calls a1 t156 _ A7.out).mono ?_); rintro e w' ⟨rfl, ⟨nd, rfl⟩⟩; (try first | exact ⟨rfl, _, World.drewN_drewN _ _ _⟩ | exact ⟨rfl, _, Eq.trans (World.drewN_drewN _ _ _) (congrArg (World.drewN _) (Nat.add_assoc _ _ _))⟩)) | (go_at_call 77; (with_reducible refine (ratio_common.calls t155 t156 t157 _ A8.out).mono ?_); rintro e w' ⟨rfl, ⟨nd, rfl⟩⟩; (try first | exact ⟨rfl, _, World.drewN_drewN _ _ _⟩ | exact ⟨rfl, _, Eq.trans (World.drewN_drewN _ _ _) (congrArg (World.drewN _) (Nat.add_assoc _ _ _))⟩)) | ((with_reducible refine gate_dst (N := 9) rfl ?_); refine box_event ?hg (N := 9) ?hd (cs := #[.int .i64 0, .int .i64 0]) (t := 72) ?hr ?_; (case hd => rfl); (case hg => rfl); (case hr => first | (go_simp; done) | (go_simp; rfl)); intro gb158 hg w21 hbox hb; have BK158 := Aside0.mk (hbox); have GW158 := qT HB hg; have GE158 := qS HB hg; replace HB := Aside0.mk (below_step (qW HB.out) hb); have NB154_158 := qL BK154 hg; have NB158_154 := qM BK154 hg; replace BK154 := qD BK154 hb; clear hb hbox hg; have hnb22 := NB158_154.out; have hnc22 := NB154_158.out; have hcz23_0 := qC BK158 0 rfl; have hcz23_1 := qC BK158 1 rfl; have hfz23_0 := blk_frozen BK158.out 0; have hfz23_1 := blk_frozen BK158.out 1; have hcz24_0 := qC BK154 0 rfl; have hcz24_1 := qC BK154 1 rfl; have hfz24_0 := blk_frozen BK154.out 0; have hfz24_1 := blk_frozen BK154.out 1))
         repeat (go_quiet (first | ((with_reducible refine gate_dst (N := 4) rfl ?_); refine box_event ?hg (N := 4) ?hd (cs := #[.int .i64 0, .int .i64 0]) (t := 72) ?hr ?_; (case hd => rfl); (case hg => rfl); (case hr => first | (go_simp; done) | (go_simp; rfl)); intro gb154 hg w20 hbox hb; have BK154 := Aside0.mk (hbox); have GW154 := qT HB hg; have GE154 := qS HB hg; replace HB := Aside0.mk (below_step (qW HB.out) hb); clear hb hbox hg) | (go_at_call 76; (with_reducible refine (ratio_abs.calls a0 t155 _ A6.out).mono ?_); rintro e w' ⟨rfl, ⟨nd, rfl⟩⟩; (try first | exact ⟨rfl, _, World.drewN_drewN _ _ _⟩ | exact ⟨rfl, _, Eq.trans (World.drewN_drewN _ _ _) (congrArg (World.drewN _) (Nat.add_assoc _ _ _))⟩)) | (go_at_call 76; (with_reducible refine (ratio_abs.calls a1 t156 _ A7.out).mono ?_); rintro e w' ⟨rfl, ⟨nd, rfl⟩⟩; (try first | exact ⟨rfl, _, World.drewN_drewN _ _ _⟩ | exact ⟨rfl, _, Eq.trans (World.drewN_drewN _ _ _) (congrArg (World.drewN _) (Nat.add_assoc _ _ _))⟩)) | (go_at_call 77; (with_reducible refine (ratio_common.calls t155 t156 t157 _ A8.out).mono ?_); rintro e w' ⟨rfl, ⟨nd, rfl⟩⟩; (try first | exact ⟨rfl, _, World.drewN_drewN _ _ _⟩ | exact ⟨rfl, _, Eq.trans (World.drewN_drewN _ _ _) (congrArg (World.drewN _) (Nat.add_assoc _ _ _))⟩)) | ((with_reducible refine gate_dst (N := 9) rfl ?_); refine box_event ?hg (N := 9) ?hd (cs := #[.int .i64 0, .int .i64 0]) (t := 72) ?hr ?_; (case hd => rfl); (case hg => rfl); (case hr => first | (go_simp; done) | (go_simp; rfl)); intro gb158 hg w21 hbox hb; have BK158 := Aside0.mk (hbox); have GW158 := qT HB hg; have GE158 := qS HB hg; replace HB := Aside0.mk (below_step (qW HB.out) hb); have NB154_158 := qL BK154 hg; have NB158_154 := qM BK154 hg; replace BK154 := qD BK154 hb; clear hb hbox hg; have hnb22 := NB158_154.out; have hnc22 := NB154_158.out; have hcz23_0 := qC BK158 0 rfl; have hcz23_1 := qC BK158 1 rfl; have hfz23_0 := blk_frozen BK158.out 0; have hfz23_1 := blk_frozen BK158.out 1; have hcz24_0 := qC BK154 0 rfl; have hcz24_1 := qC BK154 1 rfl; have hfz24_0 := blk_frozen BK154.out 0; have hfz24_1 := blk_frozen BK154.out 1)); try go_wp2_with (first | ((with_reducible refine gate_dst (N := 4) rfl ?_); refine box_event ?hg (N := 4) ?hd (cs := #[.int .i64 0, .int .i64 0]) (t := 72) ?hr ?_; (case hd => rfl); (case hg => rfl); (case hr => first | (go_simp; done) | (go_simp; rfl)); intro gb154 hg w20 hbox hb; have BK154 := Aside0.mk (hbox); have GW154 := qT HB hg; have GE154 := qS HB hg; replace HB := Aside0.mk (below_step (qW HB.out) hb); clear hb hbox hg) | (go_at_call 76; (with_reducible refine (ratio_abs.calls a0 t155 _ A6.out).mono ?_); rintro e w' ⟨rfl, ⟨nd, rfl⟩⟩; (try first | exact ⟨rfl, _, World.drewN_drewN _ _ _⟩ | exact ⟨rfl, _, Eq.trans (World.drewN_drewN _ _ _) (congrArg (World.drewN _) (Nat.add_assoc _ _ _))⟩)) | (go_at_call 76; (with_reducible refine (ratio_abs.calls a1 t156 _ A7.out).mono ?_); rintro e w' ⟨rfl, ⟨nd, rfl⟩⟩; (try first | exact ⟨rfl, _, World.drewN_drewN _ _ _⟩ | exact ⟨rfl, _, Eq.trans (World.drewN_drewN _ _ _) (congrArg (World.drewN _) (Nat.add_assoc _ _ _))⟩)) | (go_at_call 77; (with_reducible refine (ratio_common.calls t155 t156 t157 _ A8.out).mono ?_); rintro e w' ⟨rfl, ⟨nd, rfl⟩⟩; (try first | exact ⟨rfl, _, World.drewN_drewN _ _ _⟩ | exact ⟨rfl, _, Eq.trans (World.drewN_drewN _ _ _) (congrArg (World.drewN _) (Nat.add_assoc _ _ _))⟩)) | ((with_reducible refine gate_dst (N := 9) rfl ?_); refine box_event ?hg (N := 9) ?hd (cs := #[.int .i64 0, .int .i64 0]) (t := 72) ?hr ?_; (case hd => rfl); (case hg => rfl); (case hr => first | (go_simp; done) | (go_simp; rfl)); intro gb158 hg w21 hbox hb; have BK158 := Aside0.mk (hbox); have GW158 := qT HB hg; have GE158 := qS HB hg; replace HB := Aside0.mk (below_step (qW HB.out) hb); have NB154_158 := qL BK154 hg; have NB158_154 := qM BK154 hg; replace BK154 := qD BK154 hb; clear hb hbox hg; have hnb22 := NB158_154.out; have hnc22 := NB154_158.out; have hcz23_0 := qC BK158 0 rfl; have hcz23_1 := qC BK158 1 rfl; have hfz23_0 := blk_frozen BK158.out 0; have hfz23_1 := blk_frozen BK158.out 1; have hcz24_0 := qC BK154 0 rfl; have hcz24_1 := qC BK154 1 rfl; have hfz24_0 := blk_frozen BK154.out 0; have hfz24_1 := blk_frozen BK154.out 1)))
         refine bodyPost_ret (results_ct rfl _ _ gb154 72 #[.int .i64 (wrap64 (IntKind.u64.wrap (Int.tdiv t155 t157))), .int .i64 (wrap64 (IntKind.u64.wrap (Int.tdiv t156 t157)))] (0, 0) _ rfl (by (with_reducible repeat (first | refine blk_drewN ?_ _ | refine blk_drew ?_ | refine blk_alloc ?_ _)); refine blk_put (cs := #[.int .i64 (wrap64 (IntKind.u64.wrap (Int.tdiv t155 t157))), .int .i64 0]) ?_ 1 _ rfl; (with_reducible repeat (first | refine blk_drewN ?_ _ | refine blk_drew ?_ | refine blk_alloc ?_ _)); refine blk_put (cs := #[.int .i64 0, .int .i64 0]) ?_ 0 _ rfl; (with_reducible repeat (first | refine blk_drewN ?_ _ | refine blk_drew ?_ | refine blk_alloc ?_ _)); refine blk_far ?_ NB154_158.out _; (with_reducible repeat (first | refine blk_drewN ?_ _ | refine blk_drew ?_ | refine blk_alloc ?_ _)); refine blk_far ?_ NB154_158.out _; (with_reducible repeat (first | refine blk_drewN ?_ _ | refine blk_drew ?_ | refine blk_alloc ?_ _)); exact BK154.out) Tryz.underlying72 rfl (by kernel_rfl)) rfl ?_
         exact ⟨by first | rfl | (simp [errW_none, errW_some] <;> rfl) | (simp only [← hji10]; first | rfl | (simp [errW_none, errW_some] <;> rfl)) | (simp [*, errW_none, errW_some] <;> rfl), by exact qW HB.out⟩

-- NOT PRINTED: function 63 (reflectlite_ValueOf)

-- NOT PRINTED: function 64 (reflectlite_Value_Type)

-- NOT PRINTED: function 65 (reflectlite_Value_IsNil)

-- NOT PRINTED: function 86 (reflectlite_TypeOf)

-- NOT PRINTED: function 87 (reflectlite_Value_Elem)

-- NOT PRINTED: function 88 (reflectlite_Value_Set)

-- NOT PRINTED: function 66 (errors_as)

-- NOT PRINTED: function 44 (errors_As)

/-! ### beam_told: function 24 -/
/-- What an error is as a number. -/
def beam_told.f (e : Option Int) : Option Int := some (e.getD 0)
theorem beam_told.calls (a0 : Option Int) (r : Int) (w : World) (h : beam_told.f a0 = some r) (SENTS : Aside0 (SentsE w) := by exact sents_step (by assumption) (by repeat (first | (with_reducible first | exact (by assumption : Aside0 (Below _ _ _)).out | apply below_alloc | apply pw_below_drewN | apply below_drew1)))) :
 Calls Tryz.prog 24 #[errW a0] w fun e w' => e = .returned (.int .i64 r) ∧ Below w.heap.size w w' := by
  obtain rfl := Option.some.inj h
  cases a0 with
  | none => exact told_none w
  | some c => exact told_some c w SENTS.out

/-! ### beam_down: function 45 -/
def beam_down.f (a0 : Int) (a1 : Int) : Option (Int) := if a1 = 0 then (none) else (if a0 < 0 then (if (wrap64 ((wrap64 (Int.tdiv a0 a1)) * a1)) = a0 then (some (wrap64 (Int.tdiv a0 a1))) else (some (wrap64 ((wrap64 (Int.tdiv a0 a1)) - 1)))) else (some (wrap64 (Int.tdiv a0 a1))))
set_option maxHeartbeats 8000000 in
set_option maxRecDepth 100000 in
theorem beam_down.calls (a0 : Int) (a1 : Int) (r : Int) (w : World) (h : beam_down.f a0 a1 = some r) :
 Calls Tryz.prog 45 #[.int .i64 a0, .int .i64 a1] w fun e w' => e = .returned (.int .i64 r) ∧ Drawn0 w w' := by
 have H : (if a1 = 0 then (none) else (if a0 < 0 then (if (wrap64 ((wrap64 (Int.tdiv a0 a1)) * a1)) = a0 then (some (wrap64 (Int.tdiv a0 a1))) else (some (wrap64 ((wrap64 (Int.tdiv a0 a1)) - 1)))) else (some (wrap64 (Int.tdiv a0 a1))))) = some r := h
 clear h
 by_cases c3 : a1 = 0
 · rw [if_pos c3] at H
   exact absurd H (by simp)
 · rw [if_neg c3] at H
   have c3b0 : (a1 == 0) = false := beq_eq_false_iff_ne.mpr c3
   have c3b1 : (a1 != 0) = true := bne_iff_ne.mpr c3
   by_cases c4 : a0 < 0
   · rw [if_pos c4] at H
     have c4b0 : decide (a0 < 0) = true := decide_eq_true c4
     clear c4
     by_cases c5 : (wrap64 ((wrap64 (Int.tdiv a0 a1)) * a1)) = a0
     · rw [if_pos c5] at H
       have c5b0 : ((wrap64 ((wrap64 (Int.tdiv a0 a1)) * a1)) == a0) = true := beq_iff_eq.mpr c5
       have c5b1 : ((wrap64 ((wrap64 (Int.tdiv a0 a1)) * a1)) != a0) = false := bne_eq_false_iff_eq.mpr c5
       clear c5
       obtain rfl := Option.some.inj H
       go_enter Tryz.func45, Tryz.ntmps45
       go_wp2
       go_ret
       exact ⟨by first | rfl | (simp; done) | (simp [*]; done), by repeat (first | exact Drawn0.refl _ | apply Drawn0.step)⟩
     · rw [if_neg c5] at H
       have c5b0 : ((wrap64 ((wrap64 (Int.tdiv a0 a1)) * a1)) == a0) = false := beq_eq_false_iff_ne.mpr c5
       have c5b1 : ((wrap64 ((wrap64 (Int.tdiv a0 a1)) * a1)) != a0) = true := bne_iff_ne.mpr c5
       obtain rfl := Option.some.inj H
       go_enter Tryz.func45, Tryz.ntmps45
       go_wp2
       go_ret
       exact ⟨by first | rfl | (simp; done) | (simp [*]; done), by repeat (first | exact Drawn0.refl _ | apply Drawn0.step)⟩
   · rw [if_neg c4] at H
     have c4b0 : decide (a0 < 0) = false := decide_eq_false c4
     clear c4
     obtain rfl := Option.some.inj H
     go_enter Tryz.func45, Tryz.ntmps45
     go_wp2
     go_ret
     exact ⟨by first | rfl | (simp; done) | (simp [*]; done), by repeat (first | exact Drawn0.refl _ | apply Drawn0.step)⟩

end Go.Proofs.YtocjbedacnlaaaaGreatDoor.Q
