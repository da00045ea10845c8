-- Written by a program of this session (myprint.py), function by function.
import Derived.Test.YtocjbedacnlaaaaGreatDoorQ0
import Derived.Test.YtocjbedacnlaaaaGreatDoorQ6
import Derived.IntWalk
import Derived.LoopIn
import Derived.LoopNIn
import Derived.Maps.AppendAt
import Derived.OwnWalkIn
import Derived.RangeFuncBound
import Derived.RangeFuncBox
import Derived.RangeFuncCalls
import Derived.RangeFuncLeaves
import Derived.RangeFuncNested
import Derived.Shelf.Abstract
import Derived.Shelf.RegionOpen
import Derived.TacticsInMore
import Derived.WalkKit
namespace Go.Proofs.YtocjbedacnlaaaaGreatDoor.Q
open Go.RowKit Go.Proofs.YtocjbedacnlaaaaGreatDoorW.PrintWords Go.Proofs.YtocjbedacnlaaaaGreatDoorW.PrintLast Go.Proofs.YtocjbedacnlaaaaGreatDoorW.PrintMore
attribute [local go_sem] max2_int min2_int max_two min_two max_three min_three max_four min_four   -- for this text's walks alone
set_option linter.unusedVariables false
set_option linter.unusedSimpArgs false

/-! ### meter_Right: function 38 -/
mutual
def meter_Right.j0 : Nat → Bool → Int → Int → List Int → Option (Bool)
 | 0, _, _, _, _ => none
 | k + 1, x32, x191000, x191001, x191002 => if x32 = true then (some false) else (meter_Right.l0 k x191000 x191002 (x191002.length : Int) 0 x191000 x191001 x191002)
def meter_Right.l0 : Nat → Int → List Int → Int → Int → Int → Int → List Int → Option (Bool)
 | 0, _, _, _, _, _, _, _ => none
 | k + 1, x3, x36, x37, x38, x191000, x191001, x191002 => if x38 < x37 then (if 0 ≤ x38 then (if x38 < (x36.length : Int) then (if (rd x36 x38) < 1 then (some false) else (if (rd x36 x38) > x3 then (some false) else (meter_Right.l0 k (wrap64 (x3 - (rd x36 x38))) x36 x37 (wrap64 (x38 + 1)) x191000 x191001 x191002))) else (none)) else (none)) else (if x3 = 0 then (some true) else (some ((x191002.length : Int) == 0)))
end
def meter_Right.f (k : Nat) (a0_0 : Int) (a0_1 : Int) (l0_2 : List Int) : Option (Bool) := if a0_0 < 1 then (meter_Right.j0 k true a0_0 a0_1 l0_2) else (if a0_0 > 32 then (meter_Right.j0 k true a0_0 a0_1 l0_2) else (if a0_1 < 1 then (meter_Right.j0 k true a0_0 a0_1 l0_2) else (if a0_1 > 64 then (meter_Right.j0 k true a0_0 a0_1 l0_2) else (meter_Right.j0 k ((Go.bits .and .i64 a0_1 (wrap64 (a0_1 - 1))) != 0) a0_0 a0_1 l0_2))))
theorem meter_Right.mono_l : ∀ k, (∀ y0 y1 y2 y3, LeO (meter_Right.j0 k y0 y1 y2 y3) (meter_Right.j0 (k + 1) y0 y1 y2 y3)) ∧ (∀ y0 y1 y2 y3 y4 y5 y6, LeO (meter_Right.l0 k y0 y1 y2 y3 y4 y5 y6) (meter_Right.l0 (k + 1) y0 y1 y2 y3 y4 y5 y6))
 | 0 => ⟨fun _ _ _ _ r h => by simp [meter_Right.j0] at h, fun _ _ _ _ _ _ _ r h => by simp [meter_Right.l0] at h⟩
 | k + 1 => by
  obtain ⟨ih0, ih1⟩ := meter_Right.mono_l k
  refine ⟨?_, ?_⟩
  · intro y0 y1 y2 y3
    unfold meter_Right.j0
    repeat' first
    | (with_reducible exact ih0 _ _ _ _)
    | (with_reducible exact ih1 _ _ _ _ _ _ _)
    | (with_reducible exact LeO.refl _)
    | (with_reducible exact LeO.none _)
    | (with_reducible refine LeO.ite ?_ ?_)
    | (with_reducible refine LeO.bind ?_ (fun _ => ?_))
    | exact ih0 _ _ _ _
    | exact ih1 _ _ _ _ _ _ _
    | exact LeO.none _
    | refine LeO.ite ?_ ?_
    | refine LeO.bind ?_ (fun _ => ?_)
  · intro y0 y1 y2 y3 y4 y5 y6
    unfold meter_Right.l0
    repeat' first
    | (with_reducible exact ih0 _ _ _ _)
    | (with_reducible exact ih1 _ _ _ _ _ _ _)
    | (with_reducible exact LeO.refl _)
    | (with_reducible exact LeO.none _)
    | (with_reducible refine LeO.ite ?_ ?_)
    | (with_reducible refine LeO.bind ?_ (fun _ => ?_))
    | exact ih0 _ _ _ _
    | exact ih1 _ _ _ _ _ _ _
    | exact LeO.none _
    | refine LeO.ite ?_ ?_
    | refine LeO.bind ?_ (fun _ => ?_)
theorem meter_Right.mono : ∀ a0 a1 a2 k, LeO (meter_Right.f k a0 a1 a2) (meter_Right.f (k + 1) a0 a1 a2) := by
 intro a0 a1 a2 k
 obtain ⟨ih0, ih1⟩ := meter_Right.mono_l k
 unfold meter_Right.f
 repeat' first
  | (with_reducible exact ih0 _ _ _ _)
  | (with_reducible exact ih1 _ _ _ _ _ _ _)
  | (with_reducible exact LeO.refl _)
  | (with_reducible exact LeO.none _)
  | (with_reducible refine LeO.ite ?_ ?_)
  | (with_reducible refine LeO.bind ?_ (fun _ => ?_))
  | exact ih0 _ _ _ _
  | exact ih1 _ _ _ _ _ _ _
  | exact LeO.none _
  | refine LeO.ite ?_ ?_
  | refine LeO.bind ?_ (fun _ => ?_)
set_option maxHeartbeats 8000000 in
set_option maxRecDepth 100000 in
theorem meter_Right.calls (k : Nat) (a0_0 : Int) (a0_1 : Int) (A0_2 : Option Addr) (c0_2 : Nat) (l0_2 : List Int) (r : Bool) (w : World) (hr0_2 : Kd.C (Kd.int .i64) w A0_2 l0_2.length l0_2) (hc0_2 : l0_2.length ≤ c0_2) (h : meter_Right.f k a0_0 a0_1 l0_2 = some r) :
 Calls Tryz.prog 38 #[.agg #[.int .i64 a0_0, .int .i64 a0_1, .slice A0_2 l0_2.length c0_2]] w fun e w' => e = .returned (.bool r) ∧ Below w.heap.size w w' := by
 have hu29 := Tryz.underlying29
 have HR0_2 := Aside0.mk hr0_2
 have HC0_2 := Aside0.mk hc0_2
 clear hr0_2 hc0_2
 have HB := Aside0.mk (Below.refl w.heap.size w)
 have H : (if a0_0 < 1 then (meter_Right.j0 k true a0_0 a0_1 l0_2) else (if a0_0 > 32 then (meter_Right.j0 k true a0_0 a0_1 l0_2) else (if a0_1 < 1 then (meter_Right.j0 k true a0_0 a0_1 l0_2) else (if a0_1 > 64 then (meter_Right.j0 k true a0_0 a0_1 l0_2) else (meter_Right.j0 k ((Go.bits .and .i64 a0_1 (wrap64 (a0_1 - 1))) != 0) a0_0 a0_1 l0_2))))) = some r := h
 clear h
 have HC2 := Aside0.mk H
 clear H
 go_enter Tryz.func38, Tryz.ntmps38
 go_upto_region 1 with (first | ((with_reducible refine gate_dst (N := 1) rfl ?_); (try (refine gate_guard (by rfl) ?_; dsimp only)); refine box_event ?hg (N := 1) ?hd (cs := #[.int .i64 a0_0, .int .i64 a0_1, .slice A0_2 l0_2.length c0_2]) (t := 29) ?hr ?_; (case hd => rfl); (case hg => rfl); (case hr => first | (go_simp; done) | (go_simp; rfl)); intro gb190 hg w3 hbox hb; have n0_ := Aside0.mk (below_step (by repeat (first | (with_reducible first | exact HB.out | apply below_alloc | apply pw_below_drewN | apply below_drew1) | exact HB.out)) hb); have n1_ := Aside0.mk (hbox); have n2_ := Aside0.mk ((by rw [hg]; exact (below_size (by repeat (first | (with_reducible first | exact HB.out | apply below_alloc | apply pw_below_drewN | apply below_drew1) | exact HB.out))) : w.heap.size ≤ gb190)); have n3_ := Aside0.mk ((by rw [hg]; exact (below_size (by repeat (first | (with_reducible first | exact HB.out | apply below_alloc | apply pw_below_drewN | apply below_drew1) | exact HB.out))) : w.heap.size ≤ gb190)); clear HB; have HB := n0_; have BK190 := n1_; have GW190 := n2_; have GE190 := n3_; clear n0_ n1_ n2_ n3_; clear hb hbox hg))
 (try simp only [Act.put, qa_, qz_, qs_])
 go_cut [32] (fun v32 wc => ∃ (kq : Nat) (x32_1 : Bool), v32 = .bool x32_1 ∧ Aside0 (meter_Right.j0 kq x32_1 a0_0 a0_1 l0_2 = some r) ∧ Aside0 (kq ≤ k) ∧ Aside0 (wc.heap[gb190]? = some (.cells #[.int .i64 a0_0, .int .i64 a0_1, (.slice A0_2 l0_2.length c0_2)] 29 (0, 0))) ∧ Aside0 (Below w.heap.size w wc))
 case first =>
  have H := HC2.out
  clear HC2
  by_cases c4 : a0_0 < 1
  · rw [if_pos c4] at H
    have c4b0 : decide (a0_0 < 1) = true := decide_eq_true c4
    clear c4
    (first | rw [c4b0] | (simp only [i64_w, i32_w]; rw [c4b0]) | skip)
    have H' := Aside0.mk H
    clear H
    have hcz5_0 : w3.cell? ⟨gb190, 0, none⟩ = some (.int .i64 a0_0) := (blk_cell BK190.out 0).trans rfl
    have hcz5_1 : w3.cell? ⟨gb190, 1, none⟩ = some (.int .i64 a0_1) := (blk_cell BK190.out 1).trans rfl
    have hcz5_2 : w3.cell? ⟨gb190, 2, none⟩ = some (.slice A0_2 l0_2.length c0_2) := (blk_cell BK190.out 2).trans rfl
    have hfz5_0 := blk_frozen BK190.out 0
    have hfz5_1 := blk_frozen BK190.out 1
    have hfz5_2 := blk_frozen BK190.out 2
    go_wp2
    go_meet
    case rel => exact ⟨_, (true), (by first | rfl | (simp; done) | (simp [*]; done) | (simp [wrap64]; done)), H', ⟨by first | omega | exact Nat.le_refl _⟩, ⟨by (with_reducible repeat (first | refine blk_drewN ?_ _ | refine blk_drew ?_ | refine blk_alloc ?_ _)); exact BK190.out⟩, ⟨by repeat (first | (with_reducible first | exact HB.out | apply below_alloc | apply pw_below_drewN | apply below_drew1 | refine below_set ?_ GE190.out) | exact HB.out)⟩⟩
  · rw [if_neg c4] at H
    have c4b0 : decide (a0_0 < 1) = false := decide_eq_false c4
    clear c4
    (first | rw [c4b0] | (simp only [i64_w, i32_w]; rw [c4b0]) | skip)
    by_cases c6 : a0_0 > 32
    · rw [if_pos c6] at H
      have c6b0 : decide (32 < a0_0) = true := decide_eq_true c6
      clear c6
      have H' := Aside0.mk H
      clear H
      have hcz7_0 : w3.cell? ⟨gb190, 0, none⟩ = some (.int .i64 a0_0) := (blk_cell BK190.out 0).trans rfl
      have hcz7_1 : w3.cell? ⟨gb190, 1, none⟩ = some (.int .i64 a0_1) := (blk_cell BK190.out 1).trans rfl
      have hcz7_2 : w3.cell? ⟨gb190, 2, none⟩ = some (.slice A0_2 l0_2.length c0_2) := (blk_cell BK190.out 2).trans rfl
      have hfz7_0 := blk_frozen BK190.out 0
      have hfz7_1 := blk_frozen BK190.out 1
      have hfz7_2 := blk_frozen BK190.out 2
      go_wp2
      go_meet
      case rel => exact ⟨_, (true), (by first | rfl | (simp; done) | (simp [*]; done) | (simp [wrap64]; done)), H', ⟨by first | omega | exact Nat.le_refl _⟩, ⟨by (with_reducible repeat (first | refine blk_drewN ?_ _ | refine blk_drew ?_ | refine blk_alloc ?_ _)); exact BK190.out⟩, ⟨by repeat (first | (with_reducible first | exact HB.out | apply below_alloc | apply pw_below_drewN | apply below_drew1 | refine below_set ?_ GE190.out) | exact HB.out)⟩⟩
    · rw [if_neg c6] at H
      have c6b0 : decide (32 < a0_0) = false := decide_eq_false c6
      clear c6
      by_cases c8 : a0_1 < 1
      · rw [if_pos c8] at H
        have c8b0 : decide (a0_1 < 1) = true := decide_eq_true c8
        clear c8
        have H' := Aside0.mk H
        clear H
        have hcz9_0 : w3.cell? ⟨gb190, 0, none⟩ = some (.int .i64 a0_0) := (blk_cell BK190.out 0).trans rfl
        have hcz9_1 : w3.cell? ⟨gb190, 1, none⟩ = some (.int .i64 a0_1) := (blk_cell BK190.out 1).trans rfl
        have hcz9_2 : w3.cell? ⟨gb190, 2, none⟩ = some (.slice A0_2 l0_2.length c0_2) := (blk_cell BK190.out 2).trans rfl
        have hfz9_0 := blk_frozen BK190.out 0
        have hfz9_1 := blk_frozen BK190.out 1
        have hfz9_2 := blk_frozen BK190.out 2
        go_wp2
        go_meet
        case rel => exact ⟨_, (true), (by first | rfl | (simp; done) | (simp [*]; done) | (simp [wrap64]; done)), H', ⟨by first | omega | exact Nat.le_refl _⟩, ⟨by (with_reducible repeat (first | refine blk_drewN ?_ _ | refine blk_drew ?_ | refine blk_alloc ?_ _)); exact BK190.out⟩, ⟨by repeat (first | (with_reducible first | exact HB.out | apply below_alloc | apply pw_below_drewN | apply below_drew1 | refine below_set ?_ GE190.out) | exact HB.out)⟩⟩
      · rw [if_neg c8] at H
        have c8b0 : decide (a0_1 < 1) = false := decide_eq_false c8
        clear c8
        by_cases c10 : a0_1 > 64
        · rw [if_pos c10] at H
          have c10b0 : decide (64 < a0_1) = true := decide_eq_true c10
          clear c10
          have H' := Aside0.mk H
          clear H
          have hcz11_0 : w3.cell? ⟨gb190, 0, none⟩ = some (.int .i64 a0_0) := (blk_cell BK190.out 0).trans rfl
          have hcz11_1 : w3.cell? ⟨gb190, 1, none⟩ = some (.int .i64 a0_1) := (blk_cell BK190.out 1).trans rfl
          have hcz11_2 : w3.cell? ⟨gb190, 2, none⟩ = some (.slice A0_2 l0_2.length c0_2) := (blk_cell BK190.out 2).trans rfl
          have hfz11_0 := blk_frozen BK190.out 0
          have hfz11_1 := blk_frozen BK190.out 1
          have hfz11_2 := blk_frozen BK190.out 2
          go_wp2
          go_meet
          case rel => exact ⟨_, (true), (by first | rfl | (simp; done) | (simp [*]; done) | (simp [wrap64]; done)), H', ⟨by first | omega | exact Nat.le_refl _⟩, ⟨by (with_reducible repeat (first | refine blk_drewN ?_ _ | refine blk_drew ?_ | refine blk_alloc ?_ _)); exact BK190.out⟩, ⟨by repeat (first | (with_reducible first | exact HB.out | apply below_alloc | apply pw_below_drewN | apply below_drew1 | refine below_set ?_ GE190.out) | exact HB.out)⟩⟩
        · rw [if_neg c10] at H
          have c10b0 : decide (64 < a0_1) = false := decide_eq_false c10
          clear c10
          have H' := Aside0.mk H
          clear H
          have hcz12_0 : w3.cell? ⟨gb190, 0, none⟩ = some (.int .i64 a0_0) := (blk_cell BK190.out 0).trans rfl
          have hcz12_1 : w3.cell? ⟨gb190, 1, none⟩ = some (.int .i64 a0_1) := (blk_cell BK190.out 1).trans rfl
          have hcz12_2 : w3.cell? ⟨gb190, 2, none⟩ = some (.slice A0_2 l0_2.length c0_2) := (blk_cell BK190.out 2).trans rfl
          have hfz12_0 := blk_frozen BK190.out 0
          have hfz12_1 := blk_frozen BK190.out 1
          have hfz12_2 := blk_frozen BK190.out 2
          go_wp2
          go_meet
          case rel => exact ⟨_, (((Go.bits .and .i64 a0_1 (wrap64 (a0_1 - 1))) != 0)), (by first | rfl | (simp; done) | (simp [*]; done) | (simp [wrap64]; done)), H', ⟨by first | omega | exact Nat.le_refl _⟩, ⟨by (with_reducible repeat (first | refine blk_drewN ?_ _ | refine blk_drew ?_ | refine blk_alloc ?_ _)); exact BK190.out⟩, ⟨by repeat (first | (with_reducible first | exact HB.out | apply below_alloc | apply pw_below_drewN | apply below_drew1 | refine below_set ?_ GE190.out) | exact HB.out)⟩⟩
 case rest =>
  clear HC2
  try clear c1
  try clear p2
  try clear c3
  try clear c4
  try clear c4b0
  try clear c6
  try clear c6b0
  try clear p6
  try clear c8
  try clear c8b0
  try clear c10
  try clear c10b0
  try clear hcz11_0
  try clear hcz11_1
  try clear hcz11_2
  try clear hcz12_0
  try clear hcz12_1
  try clear hcz12_2
  try clear hcz5_0
  try clear hcz5_1
  try clear hcz5_2
  try clear hcz7_0
  try clear hcz7_1
  try clear hcz7_2
  try clear hcz9_0
  try clear hcz9_1
  try clear hcz9_2
  try clear hfz11_0
  try clear hfz11_1
  try clear hfz11_2
  try clear hfz12_0
  try clear hfz12_1
  try clear hfz12_2
  try clear hfz5_0
  try clear hfz5_1
  try clear hfz5_2
  try clear hfz7_0
  try clear hfz7_1
  try clear hfz7_2
  try clear hfz9_0
  try clear hfz9_1
  try clear hfz9_2
  obtain ⟨kq, x32_1, rfl, HA, HJ1, BK190, HB⟩ := hcut
  cases kq with
  | zero => exact absurd HA.out (by simp [meter_Right.j0])
  | succ kj1 =>
   have H := HA.out
   clear HA
   simp only [meter_Right.j0] at H
   by_cases c13 : x32_1 = true
   · subst c13
     have H1 : (some false) = some r := by rw [if_pos rfl] at H; exact H
     clear H
     have H := H1
     clear H1
     obtain rfl := Option.some.inj H
     go_wp2
     go_ret
     exact ⟨by first | rfl | (simp [errW_none, errW_some] <;> rfl) | (simp [*, errW_none, errW_some] <;> rfl), by repeat (first | (with_reducible first | exact HB.out | apply below_alloc | apply pw_below_drewN | apply below_drew1 | refine below_set ?_ GE190.out) | exact HB.out)⟩
   · replace c13 := Bool.eq_false_iff.mpr c13
     subst c13
     have H1 : (meter_Right.l0 kj1 a0_0 l0_2 (l0_2.length : Int) 0 a0_0 a0_1 l0_2) = some r := by rw [if_neg (show ¬ (false = true) by decide)] at H; exact H
     clear H
     have H := H1
     clear H1
     have H' := Aside0.mk H
     clear H
     have hcz14_0 : wc.cell? ⟨gb190, 0, none⟩ = some (.int .i64 a0_0) := (blk_cell BK190.out 0).trans rfl
     have hcz14_1 : wc.cell? ⟨gb190, 1, none⟩ = some (.int .i64 a0_1) := (blk_cell BK190.out 1).trans rfl
     have hcz14_2 : wc.cell? ⟨gb190, 2, none⟩ = some (.slice A0_2 l0_2.length c0_2) := (blk_cell BK190.out 2).trans rfl
     have hfz14_0 := blk_frozen BK190.out 0
     have hfz14_1 := blk_frozen BK190.out 1
     have hfz14_2 := blk_frozen BK190.out 2
     go_wp2
     go_loopg [3, 38] kj1 (fun kq v3 v38 w' => ∃ (x3_2 : Int) (x38_2 : Int), v3 = .int .i64 x3_2 ∧ v38 = .int .i64 x38_2 ∧ Aside0 (meter_Right.l0 kq x3_2 l0_2 (l0_2.length : Int) x38_2 a0_0 a0_1 l0_2 = some r) ∧ Aside0 (kq ≤ kj1) ∧ Aside0 (w'.heap[gb190]? = some (.cells #[.int .i64 a0_0, .int .i64 a0_1, (.slice A0_2 l0_2.length c0_2)] 29 (0, 0))) ∧ Aside0 (Below w.heap.size w w'))
     case atStart => exact ⟨(a0_0), (0), (by first | rfl | (simp; done) | (simp [*]; done) | (simp [wrap64]; done)), (by first | rfl | (simp; done) | (simp [*]; done) | (simp [wrap64]; done)), H', ⟨Nat.le_refl _⟩, ⟨by (with_reducible repeat (first | refine blk_drewN ?_ _ | refine blk_drew ?_ | refine blk_alloc ?_ _)); exact BK190.out⟩, ⟨by repeat (first | (with_reducible first | exact HB.out | apply below_alloc | apply pw_below_drewN | apply below_drew1 | refine below_set ?_ GE190.out) | exact HB.out)⟩⟩
     case round =>
      clear H'
      try clear c1
      try clear p2
      try clear c3
      try clear c4
      try clear c4b0
      try clear c6
      try clear c6b0
      try clear p6
      try clear c8
      try clear c8b0
      try clear c10
      try clear c10b0
      try clear c13
      try clear hcz11_0
      try clear hcz11_1
      try clear hcz11_2
      try clear hcz12_0
      try clear hcz12_1
      try clear hcz12_2
      try clear hcz14_0
      try clear hcz14_1
      try clear hcz14_2
      try clear hcz5_0
      try clear hcz5_1
      try clear hcz5_2
      try clear hcz7_0
      try clear hcz7_1
      try clear hcz7_2
      try clear hcz9_0
      try clear hcz9_1
      try clear hcz9_2
      try clear hfz11_0
      try clear hfz11_1
      try clear hfz11_2
      try clear hfz12_0
      try clear hfz12_1
      try clear hfz12_2
      try clear hfz14_0
      try clear hfz14_1
      try clear hfz14_2
      try clear hfz5_0
      try clear hfz5_1
      try clear hfz5_2
      try clear hfz7_0
      try clear hfz7_1
      try clear hfz7_2
      try clear hfz9_0
      try clear hfz9_1
      try clear hfz9_2
      try clear p2
      try clear p6
      obtain ⟨x3_2, x38_2, rfl, rfl, HA, HK2, BK190, HB⟩ := hrel
      cases gk with
      | zero => exact absurd HA.out (by simp [meter_Right.l0])
      | succ k2 =>
       have H := HA.out
       clear HA
       simp only [meter_Right.l0] at H
       by_cases c15 : x38_2 < (l0_2.length : Int)
       · rw [if_pos c15] at H
         have c15b0 : decide (x38_2 < (l0_2.length : Int)) = true := decide_eq_true c15
         clear c15
         by_cases c16 : 0 ≤ x38_2
         · rw [if_pos c16] at H
           have c16b0 : decide (0 ≤ x38_2) = true := decide_eq_true c16
           clear c16
           by_cases c17 : x38_2 < (l0_2.length : Int)
           · rw [if_pos c17] at H
             have c17b0 : decide (x38_2 < (l0_2.length : Int)) = true := decide_eq_true c17
             clear c17
             by_cases c18 : (rd l0_2 x38_2) < 1
             · rw [if_pos c18] at H
               have c18b0 : decide ((rd l0_2 x38_2) < 1) = true := decide_eq_true c18
               clear c18
               obtain rfl := Option.some.inj H
               have p191 : 0 ≤ (x38_2 : Int) := of_decide_eq_true (by first | (with_reducible assumption) | assumption)
               have q191 : x38_2 < (l0_2.length : Int) := of_decide_eq_true (by first | (with_reducible assumption) | assumption)
               obtain ⟨ad191, e191, hx191_0⟩ := Kd.at_int HR0_2.out x38_2 p191 q191
               cases e191
               replace hx191_0 := (HB.out.cell (World.block_lt_of_cell? w _ hx191_0)).trans hx191_0
               replace p191 := eq_true p191
               replace q191 := eq_true q191
               go_wp2
               go_ret
               exact ⟨by first | rfl | (simp [errW_none, errW_some] <;> rfl) | (simp [*, errW_none, errW_some] <;> rfl), by repeat (first | (with_reducible first | exact HB.out | apply below_alloc | apply pw_below_drewN | apply below_drew1 | refine below_set ?_ GE190.out) | exact HB.out)⟩
             · rw [if_neg c18] at H
               have c18b0 : decide ((rd l0_2 x38_2) < 1) = false := decide_eq_false c18
               clear c18
               by_cases c19 : (rd l0_2 x38_2) > x3_2
               · rw [if_pos c19] at H
                 have c19b0 : decide (x3_2 < (rd l0_2 x38_2)) = true := decide_eq_true c19
                 clear c19
                 obtain rfl := Option.some.inj H
                 have p191 : 0 ≤ (x38_2 : Int) := of_decide_eq_true (by first | (with_reducible assumption) | assumption)
                 have q191 : x38_2 < (l0_2.length : Int) := of_decide_eq_true (by first | (with_reducible assumption) | assumption)
                 obtain ⟨ad191, e191, hx191_0⟩ := Kd.at_int HR0_2.out x38_2 p191 q191
                 cases e191
                 replace hx191_0 := (HB.out.cell (World.block_lt_of_cell? w _ hx191_0)).trans hx191_0
                 replace p191 := eq_true p191
                 replace q191 := eq_true q191
                 go_wp2
                 go_ret
                 exact ⟨by first | rfl | (simp [errW_none, errW_some] <;> rfl) | (simp [*, errW_none, errW_some] <;> rfl), by repeat (first | (with_reducible first | exact HB.out | apply below_alloc | apply pw_below_drewN | apply below_drew1 | refine below_set ?_ GE190.out) | exact HB.out)⟩
               · rw [if_neg c19] at H
                 have c19b0 : decide (x3_2 < (rd l0_2 x38_2)) = false := decide_eq_false c19
                 clear c19
                 have H' := Aside0.mk H
                 clear H
                 have p191 : 0 ≤ (x38_2 : Int) := of_decide_eq_true (by first | (with_reducible assumption) | assumption)
                 have q191 : x38_2 < (l0_2.length : Int) := of_decide_eq_true (by first | (with_reducible assumption) | assumption)
                 obtain ⟨ad191, e191, hx191_0⟩ := Kd.at_int HR0_2.out x38_2 p191 q191
                 cases e191
                 replace hx191_0 := (HB.out.cell (World.block_lt_of_cell? w _ hx191_0)).trans hx191_0
                 replace p191 := eq_true p191
                 replace q191 := eq_true q191
                 go_wp2
                 go_roundg k2
                 case measure => have := HJ1.out; have := HK2.out; omega
                 case rel => exact ⟨(wrap64 (x3_2 - (rd l0_2 x38_2))), (wrap64 (x38_2 + 1)), (by first | rfl | (simp; done) | (simp [*]; done) | (simp [wrap64]; done)), (by first | rfl | (simp; done) | (simp [*]; done) | (simp [wrap64]; done)), H', ⟨by have := HJ1.out; have := HK2.out; omega⟩, ⟨by (with_reducible repeat (first | refine blk_drewN ?_ _ | refine blk_drew ?_ | refine blk_alloc ?_ _)); exact BK190.out⟩, ⟨by repeat (first | (with_reducible first | exact HB.out | apply below_alloc | apply pw_below_drewN | apply below_drew1 | refine below_set ?_ GE190.out) | exact HB.out)⟩⟩
           · rw [if_neg c17] at H
             exact absurd H (by simp)
         · rw [if_neg c16] at H
           exact absurd H (by simp)
       · rw [if_neg c15] at H
         have c15b0 : decide (x38_2 < (l0_2.length : Int)) = false := decide_eq_false c15
         clear c15
         by_cases c20 : x3_2 = 0
         · rw [if_pos c20] at H
           have c20b0 : (x3_2 == 0) = true := beq_iff_eq.mpr c20
           have c20b1 : (x3_2 != 0) = false := bne_eq_false_iff_eq.mpr c20
           clear c20
           obtain rfl := Option.some.inj H
           go_wp2
           go_ret
           exact ⟨by first | rfl | (simp [errW_none, errW_some] <;> rfl) | (simp [*, errW_none, errW_some] <;> rfl), by repeat (first | (with_reducible first | exact HB.out | apply below_alloc | apply pw_below_drewN | apply below_drew1 | refine below_set ?_ GE190.out) | exact HB.out)⟩
         · rw [if_neg c20] at H
           have c20b0 : (x3_2 == 0) = false := beq_eq_false_iff_ne.mpr c20
           have c20b1 : (x3_2 != 0) = true := bne_iff_ne.mpr c20
           obtain rfl := Option.some.inj H
           have hcz21_0 : wr.cell? ⟨gb190, 0, none⟩ = some (.int .i64 a0_0) := (blk_cell BK190.out 0).trans rfl
           have hcz21_1 : wr.cell? ⟨gb190, 1, none⟩ = some (.int .i64 a0_1) := (blk_cell BK190.out 1).trans rfl
           have hcz21_2 : wr.cell? ⟨gb190, 2, none⟩ = some (.slice A0_2 l0_2.length c0_2) := (blk_cell BK190.out 2).trans rfl
           have hfz21_0 := blk_frozen BK190.out 0
           have hfz21_1 := blk_frozen BK190.out 1
           have hfz21_2 := blk_frozen BK190.out 2
           go_wp2
           go_ret
           exact ⟨by first | rfl | (simp [errW_none, errW_some] <;> rfl) | (simp [*, errW_none, errW_some] <;> rfl), by repeat (first | (with_reducible first | exact HB.out | apply below_alloc | apply pw_below_drewN | apply below_drew1 | refine below_set ?_ GE190.out) | exact HB.out)⟩

/-! ### meter_beats: function 39 -/
section
open Go.Shelf
attribute [local go_sem] Oper.semAt_some
/-- The place of a beat: a number of parts. -/
def ptB (den a : Int) : Int × Int := (((ratio_Of.f a den).getD (0, 0, 0)).1, ((ratio_Of.f a den).getD (0, 0, 0)).2.1)
/-- The first k beats of some groups. -/
def uptoB (den : Int) (G : List Int) (k : Nat) : List (Int × Int) := (List.range k).map fun j => ptB den (G.take j).sum
theorem uptoB_succ (den : Int) (G : List Int) (k : Nat) : uptoB den G (k + 1) = uptoB den G k ++ [ptB den (G.take k).sum] := by unfold uptoB; rw [List.range_succ, List.map_append]; rfl
theorem uptoB_len (den : Int) (G : List Int) (k : Nat) : (uptoB den G k).length = k := by simp [uptoB]
theorem sum_take {G : List Int} {k : Nat} (h : k < G.length) : (G.take (k + 1)).sum = (G.take k).sum + rd G k := by
  rw [List.take_add_one, List.getElem?_eq_getElem h, List.sum_append]
  simp [rd, List.getD, h]
abbrev encR (x : Int × Int) : Array Value := #[.agg #[.int .i64 x.1, .int .i64 x.2]]
set_option maxHeartbeats 2000000 in
set_option maxRecDepth 100000 in
theorem beats_stops (n : Nat) (hn : 1 ≤ n) (Bm : Nat) (num den : Int) (v : Value) (G : List Int) (w : World) (Kp : World → World → Prop) (hKt : ∀ {X Y Z : World}, Kp X Y → Kp Y Z → Kp X Z) (hKa : ∀ {X Y : World}, Below X.heap.size X Y → Kp X Y)
    (hKm : ∀ {X Y : World}, Kp X Y → X.heap[Bm]? = some (.cells #[.int .i64 num, .int .i64 den, v] 29 (0, 0)) → Y.heap[Bm]? = some (.cells #[.int .i64 num, .int .i64 den, v] 29 (0, 0)))
    (hm : w.heap[Bm]? = some (.cells #[.int .i64 num, .int .i64 den, v] 29 (0, 0)))
    (hG : ∀ W, Below w.heap.size w W → Calls Tryz.prog 57 #[.agg #[.int .i64 num, .int .i64 den, v]] W fun e W' => ∃ A c, e = .returned (.slice A G.length c) ∧ (∀ W2, Kp W' W2 → Kd.C (Kd.int .i64) W2 A G.length G) ∧ Below W.heap.size W W')
    (hO : ∀ a : Int, ∃ r, ratio_Of.f a den = some r) (hs : ∀ k, 0 ≤ (G.take k).sum ∧ (G.take k).sum ≤ 2000) (hlen : G.length ≤ 2000) :
    SeqStopsK Fence.wide n Tryz.prog 56 #[.pointer (some ⟨Bm, 0, none⟩)] encR Kp (fun xs => xs = uptoB den G G.length) (fun pre => ∃ k, k ≤ G.length ∧ pre = uptoB den G k) G.length w := by
  intro l J Jx W hW hJ hJx hY h0
  have c0 : W.cell? ⟨Bm, 0, none⟩ = some (.int .i64 num) := (blk_cell ((hW.block Bm (blk_lt hm)).trans hm) 0).trans rfl
  have c1 : W.cell? ⟨Bm, 1, none⟩ = some (.int .i64 den) := (blk_cell ((hW.block Bm (blk_lt hm)).trans hm) 1).trans rfl
  have c2 : W.cell? ⟨Bm, 2, none⟩ = some v := (blk_cell ((hW.block Bm (blk_lt hm)).trans hm) 2).trans rfl
  have hu29 := Tryz.underlying29
  refine callsIn_of_wp Tryz.func56 rfl trivial ?_ rfl
  simp only [Tryz.ntmps56, List.size_toArray, List.length_cons, List.length_nil, Nat.reduceAdd, Nat.reduceSub, Array.replicate_succ, Array.replicate_zero, List.push_toArray, List.append_toArray, List.nil_append, List.cons_append]
  gi_wp2
  refine ⟨trivial, ?_⟩
  refine (callsIn_wide.2 (hG W hW)).mono ?_
  rintro e w1 ⟨A, c, rfl, hC, hb1⟩
  have J1 : J [] w1 := hJ [] W w1 none h0 (grown_of_below hb1 none) (by simp)
  have hB1 : Below w.heap.size w w1 := hW.trans (hb1.mono hW.size)
  clear c0 c1 c2
  gi_wp2
  gi_loopw [11, 3] (fun i a wr => ∃ k : Nat, k ≤ G.length ∧ i = .int .i64 k ∧ a = .int .i64 (G.take k).sum ∧ J (uptoB den G k) wr ∧ Kp w1 wr) (fun i _ _ => G.length - (intOf i).toNat)
  case atStart => exact ⟨0, by omega, rfl, rfl, J1, hKa (Below.refl _ _)⟩
  case round =>
    obtain ⟨k, hk, rfl, rfl, hJs, hnx⟩ := hrel
    have hbm := hKm hnx ((hB1.block Bm (blk_lt hm)).trans hm)
    have c1 : wr.cell? ⟨Bm, 1, none⟩ = some (.int .i64 den) := (blk_cell hbm 1).trans rfl
    by_cases hlt : k < G.length
    · obtain ⟨ad, rfl, hx⟩ := Kd.at_int (hC wr hnx) (k : Int) (by omega) (by omega)
      rw [Int.toNat_natCast] at hx
      obtain ⟨⟨r1, r2, r3⟩, hO1⟩ := hO (G.take k).sum
      have hpt : ptB den (G.take k).sum = (r1, r2) := by unfold ptB; rw [hO1]; rfl
      have hsk := hs k
      have hsk1 := hs (k + 1)
      rw [sum_take hlt] at hsk1
      have hsum := sum_take hlt
      generalize hS : (G.take k).sum = S at *
      generalize rd G (k : Int) = gk at *
      gi_wp2
      refine ⟨trivial, ?_⟩
      refine (callsIn_wide.2 (ratio_Of.calls S den r1 r2 r3 _ hO1)).mono ?_
      rintro e w2 ⟨rfl, hb2⟩
      have hb3 : Below wr.heap.size wr (w2.alloc (.cells #[.int .i64 r1, .int .i64 r2] 72)) := below_alloc hb2 _
      have J2 : J (uptoB den G k) (w2.alloc (.cells #[.int .i64 r1, .int .i64 r2] 72)) := hJ _ wr _ none hJs (grown_of_below hb3 none) (by simp)
      obtain ⟨fn, tmps, assign, body, hy, hR⟩ := hY _ (r1, r2) _ J2 (by rw [uptoB_len]; exact hlt)
      dsimp only [encR] at hy
      have hw : IntKind.i64.wrap (S + gk) = S + gk := by rw [IntKind.wrap_i64]; omega
      gi_wp2
      refine hR.mono ?_
      rintro e W3 (⟨rfl, hJ3, hk3⟩ | ⟨rfl, hJx3⟩)
      · gi_wp2
        go_roundw
        case rel => exact ⟨k + 1, by omega, by go_num, by rw [hsum], by rw [uptoB_succ, hS, hpt]; exact hJ3, hKt (hKt hnx (hKa hb3)) hk3⟩
        case measure => simp [intOf]; omega
      · gi_wp2
        refine bodyPost_ret (results_none rfl _ _ _) rfl ?_
        exact ⟨⟨_, rfl⟩, .inr ⟨_, ⟨k + 1, by omega, by rw [uptoB_succ, hS, hpt]⟩, hJx3⟩⟩
    · obtain rfl : k = G.length := by omega
      gi_wp2
      go_end0
      exact ⟨⟨_, rfl⟩, .inl ⟨_, rfl, hJs⟩⟩
theorem ownFrom_size {β : Type} (B n : Nat) : OwnFrom B (fun (_ : β) (W : World) => n ≤ W.heap.size) := fun _ _ _ _ hs hg _ => Nat.le_trans hs hg.size
theorem cell_two_new (w : World) (x y : Value) (t : TypeId) : ∀ j u, [x, y][j]? = some u → (w.alloc (.cells #[x, y] t)).cell? ((⟨w.heap.size, 0, none⟩ : Addr).add j) = some u := by
  intro j u hj
  match j, hj with
  | 0, hj => simp at hj; subst hj; exact (blk_cell (blk_new w (.cells #[x, y] t)) 0).trans rfl
  | 1, hj => simp at hj; subst hj; exact (blk_cell (blk_new w (.cells #[x, y] t)) 1).trans rfl
theorem KM_append {W w1 : World} {n₀ B : Nat} {u v' : Value} {k : Nat} {xs : List Value} {tmp : Obj} (hv : Boxed W B 50 u) (hrow : W.ownsRow n₀ 72 2 u k xs) (hgrow : (W.alloc tmp).grownBy w1 u.ownBlock) (hb : Below n₀ W (w1.setCell ⟨B, 0, none⟩ v')) : KM n₀ W (w1.setCell ⟨B, 0, none⟩ v') := by
  refine ⟨hb.size, fun _ => hb, fun i cs t fr hi ht => ?_⟩
  have h1 : (W.alloc tmp).heap[i]? = some (.cells cs t fr) := blk_alloc hi tmp
  have n1 : some i ≠ u.ownBlock := by
    intro e
    rcases hrow.2 with ⟨rfl, _⟩ | ⟨g, cap, cur, rfl, hb, hg, _⟩
    · simp [Value.ownBlock] at e
    · simp [Value.ownBlock] at e; subst e
      rw [hg] at hi; cases hi; rcases ht with h | h <;> cases h
  have n2 : i ≠ B := by
    rintro rfl
    rw [show W.heap[i]? = _ from hv] at hi; cases hi; rcases ht with h | h <;> cases h
  have h2 : w1.heap[i]? = some (.cells cs t fr) := (hgrow.block i (blk_lt h1) (fun e => n1 (by simpa using e))).trans h1
  exact (Below.heap_setCell w1 _ _ i n2).trans h2
def flatR (pre : List (Int × Int)) : List Value := pre.flatMap fun x => [.int .i64 x.1, .int .i64 x.2]
theorem flatR_snoc (pre : List (Int × Int)) (x : Int × Int) : flatR (pre ++ [x]) = flatR pre ++ [.int .i64 x.1, .int .i64 x.2] := by unfold flatR; rw [List.flatMap_append]; simp
set_option maxHeartbeats 1000000 in
set_option maxRecDepth 100000 in
theorem beats_call (num den : Int) (v : Value) (w : World) : Calls Tryz.prog 39 #[.agg #[.int .i64 num, .int .i64 den, v]] w fun e w' => e = .returned (.func (.func 56) #[] #[.pointer (some ⟨w.heap.size, 0, none⟩)]) ∧ w' = w.alloc (.cells #[.int .i64 num, .int .i64 den, v] 29) := by
  have hu29 := Tryz.underlying29
  go_enter Tryz.func39, Tryz.ntmps39
  go_wp2
  go_ret
  exact ⟨rfl, rfl⟩
/-- A meter whose groups are as they should be. -/
def goodM (n d : Int) (l : List Int) : Bool := decide (1 ≤ n) && decide (n ≤ 32) && decide (1 ≤ d) && decide (d ≤ 64) && decide ((grp n d l).length ≤ 32) && (grp n d l).all (fun g => decide (1 ≤ g) && decide (g ≤ 32))
theorem goodM_of {n d : Int} {l : List Int} (h : goodM n d l = true) : 1 ≤ n ∧ n ≤ 32 ∧ 1 ≤ d ∧ d ≤ 64 ∧ (grp n d l).length ≤ 32 ∧ ∀ g ∈ grp n d l, 1 ≤ g ∧ g ≤ 32 := by
  unfold goodM at h
  simp only [Bool.and_eq_true, decide_eq_true_eq, List.all_eq_true] at h
  obtain ⟨⟨⟨⟨⟨h1, h2⟩, h3⟩, h4⟩, h5⟩, h6⟩ := h
  exact ⟨h1, h2, h3, h4, h5, h6⟩
theorem sum_bd {G : List Int} (h : ∀ g ∈ G, 1 ≤ g ∧ g ≤ 32) : 0 ≤ G.sum ∧ G.sum ≤ 32 * (G.length : Int) := by
  induction G with
  | nil => simp
  | cons a t ih =>
    have h1 := h a (by simp)
    have h2 := ih (fun g hg => h g (by simp [hg]))
    rw [List.sum_cons, List.length_cons]
    omega
theorem good_sums {n d : Int} {l : List Int} (h : goodM n d l = true) (k : Nat) : 0 ≤ ((grp n d l).take k).sum ∧ ((grp n d l).take k).sum ≤ 2000 := by
  obtain ⟨_, _, _, _, h5, h6⟩ := goodM_of h
  have := sum_bd (G := (grp n d l).take k) (fun g hg => h6 g (List.mem_of_mem_take hg))
  have hl : ((grp n d l).take k).length ≤ 32 := by rw [List.length_take]; omega
  omega
theorem of_some {d : Int} (h1 : 1 ≤ d) (h2 : d ≤ 64) (a : Int) : ∃ r, ratio_Of.f a d = some r := by
  unfold ratio_Of.f ratio_abs.f ratio_common.f
  have ha := absU_nonneg a
  have hd : absU d = d := by unfold absU; rw [if_neg (by omega), IntKind.wrap_u64]; omega
  rw [if_neg (by omega), hd]
  simp only [Option.bind_some]
  rw [if_pos ⟨ha, by omega⟩]
  simp only [Option.bind_some]
  have hg : ((Int.gcd (absU a) d : Nat) : Int) ≠ 0 := by
    have : Int.gcd (absU a) d ≠ 0 := by rw [Ne, Int.gcd_eq_zero_iff]; omega
    omega
  rw [if_neg hg]
  split
  · exact ⟨_, rfl⟩
  · split <;> exact ⟨_, rfl⟩
/-- The beats of a meter. -/
def beatsP (n d : Int) (l : List Int) : List (Int × Int) := uptoB d (grp n d l) (grp n d l).length
end

/-! ### meter_Beats: function 18 -/
section
open Go.Shelf
attribute [local go_sem] Oper.semAt_some
set_option maxHeartbeats 4000000 in
set_option maxRecDepth 100000 in
theorem Beats_ok (num den : Int) (v : Value) (G : List Int) (w : World)
    (hR : ∀ W, Below w.heap.size w W → Calls Tryz.prog 38 #[.agg #[.int .i64 num, .int .i64 den, v]] W fun e W' => e = .returned (.bool true) ∧ Below W.heap.size W W')
    (hG : ∀ W, Below w.heap.size w W → Calls Tryz.prog 57 #[.agg #[.int .i64 num, .int .i64 den, v]] W fun e W' => ∃ A c, e = .returned (.slice A G.length c) ∧ (∀ W2, KM w.heap.size W' W2 → Kd.C (Kd.int .i64) W2 A G.length G) ∧ Below W.heap.size W W')
    (hO : ∀ a : Int, ∃ r, ratio_Of.f a den = some r) (hs : ∀ k, 0 ≤ (G.take k).sum ∧ (G.take k).sum ≤ 2000) (hlen : G.length ≤ 2000) :
    Calls Tryz.prog 18 #[.agg #[.int .i64 num, .int .i64 den, v]] w fun e w' => ∃ v', e = .returned (.tuple #[v', .int .i64 0]) ∧ w'.ownsRow w.heap.size 72 2 v' G.length (flatR (uptoB den G G.length)) ∧ Below w.heap.size w w' := by
  have hu29 := Tryz.underlying29
  have hu72 := Tryz.underlying72
  refine (callsIn_wide (n := 6)).1 ?_
  refine callsIn_of_wp_marks Tryz.func18 rfl trivial ?_ rfl
  simp only [Tryz.ntmps18, List.size_toArray, List.length_cons, List.length_nil, Nat.reduceAdd, Nat.reduceSub, Array.replicate_succ, Array.replicate_zero, List.push_toArray, List.append_toArray, List.nil_append, List.cons_append]
  have hB0 : Below w.heap.size w ((w.alloc (.cells #[.int .i64 num, .int .i64 den, v] 29)).alloc (.cells #[.slice none 0 0] 50)) := below_alloc (below_alloc (Below.refl _ _) _) _
  have BM0 := blk_alloc (blk_new w (.cells #[.int .i64 num, .int .i64 den, v] 29)) (.cells #[.slice none 0 0] 50)
  have BO0 := blk_new (w.alloc (.cells #[.int .i64 num, .int .i64 den, v] 29)) (.cells #[.slice none 0 0] 50)
  rw [World.size_alloc] at BO0
  gi_wp2
  refine ⟨trivial, ?_⟩
  refine (callsIn_wide.2 (hR _ hB0)).mono ?_
  rintro e w1 ⟨rfl, hb1⟩
  have BM1 := blk_below BM0 hb1
  have BO1 := blk_below BO0 hb1
  have hB1 := below_step hB0 hb1
  have hs1 := hb1.size
  simp only [World.size_alloc] at hs1
  have m0 : w1.cell? ⟨w.heap.size, 0, none⟩ = some (.int .i64 num) := (blk_cell BM1 0).trans rfl
  have m1 : w1.cell? ⟨w.heap.size, 1, none⟩ = some (.int .i64 den) := (blk_cell BM1 1).trans rfl
  have m2 : w1.cell? ⟨w.heap.size, 2, none⟩ = some v := (blk_cell BM1 2).trans rfl
  clear BM0 BO0 hb1 hB0
  gi_wp2
  refine ⟨trivial, ?_⟩
  refine (callsIn_wide.2 (beats_call num den v w1)).mono ?_
  rintro e w2 ⟨rfl, rfl⟩
  have hB2 : Below w.heap.size w (w1.alloc (.cells #[.int .i64 num, .int .i64 den, v] 29)) := below_alloc hB1 _
  have BO2 := blk_alloc BO1 (.cells #[.int .i64 num, .int .i64 den, v] 29)
  have BN2 := blk_new w1 (.cells #[.int .i64 num, .int .i64 den, v] 29)
  clear m0 m1 m2 BM1 BO1
  have hw2 : w1.heap.size < (w1.alloc (.cells #[.int .i64 num, .int .i64 den, v] 29)).heap.size := by simp
  generalize hWW : (w1.alloc (.cells #[.int .i64 num, .int .i64 den, v] 29)) = w2 at *
  generalize hbm : w1.heap.size = Bm at *
  generalize hbo : w.heap.size + 1 = Bo at *
  have hR2 : w2.ownsRow w.heap.size 72 2 (.slice none 0 0) 0 [] := own_nil _ _ _ _
  gi_wp2
  refine wpIn_rangeFunc_ownH rfl (by omega) (gf := 56) (lb := #[.pointer (some ⟨Bm, 0, none⟩)]) rfl trivial (enters_of Tryz.func56 (by kernel_rfl) rfl)
    (beats_stops 5 (by omega) Bm num den v G w2 (KM w.heap.size) KM.trans KM.of_below (fun h hm => h.2.2 _ _ _ _ hm (.inr rfl)) BN2 (fun W hb => hG W (hB2.trans (hb.mono hB2.size))) hO hs hlen)
    KM.trans (KM.putObj hB2.size) (Below.refl _ _) (fun _ => rfl)
    (fun pre W => (∃ u, Boxed W Bo 50 u ∧ W.ownsRow w.heap.size 72 2 u pre.length (flatR pre) ∧ True) ∧ w2.heap.size ≤ W.heap.size ∧ Below w.heap.size w W)
    (fun _ _ _ => False)
    (OwnFrom.and (Own.from (holdsRow_own w.heap.size Bo 50 72 2 (fun pre => pre.length) flatR (fun _ _ => True)) _) (OwnFrom.and (ownFrom_size _ _) (ownFrom_below (Nat.le_refl _) hB2.size)))
    (fun _ _ _ _ _ hs _ _ => hs)
    ⟨⟨_, BO2, hR2, trivial⟩, Nat.le_refl _, hB2⟩
    (fun x a' W => ∃ Bx, w2.heap.size ≤ Bx ∧ W.heap[Bx]? = some (.cells #[.int .i64 x.1, .int .i64 x.2] 72 (0, 0)) ∧ a' = { tmps := #[.agg #[.int .i64 num, .int .i64 den, v], .pointer (some ⟨w.heap.size, 0, none⟩), .pointer (some ⟨Bo, 0, none⟩), .int .i64 0, .pointer (some ⟨Bx, 0, none⟩), .agg #[.int .i64 num, .int .i64 den, v], .bool true, .bool false, .agg #[.int .i64 num, .int .i64 den, v], .func (.func 56) #[] #[.pointer (some ⟨Bm, 0, none⟩)], .agg #[.int .i64 x.1, .int .i64 x.2], undef, undef, undef, undef, undef], defers := [] }) ?hAx ?assign ?body ?done ?stop
  case hAx =>
    rintro x a' s X Y row ⟨Bx, h1, h2, h3⟩ hg hr
    exact ⟨Bx, h1, (grownBy_keeps_cells hg (fun r e => (hr r e).2) h2 rfl).trans h2, h3⟩
  case assign =>
    rintro l pre x W K hi hK
    simp only [encR]
    gi_wp2
    have hbl : Below W.heap.size W (W.alloc (.cells #[.int .i64 x.1, .int .i64 x.2] 72)) := below_alloc (Below.refl _ _) _
    refine hK _ _ ((KeepsOthers.alloc _ _).from _) (KM.of_below hbl) ?_ ⟨W.heap.size, ?_, blk_new W _, rfl⟩
    · obtain ⟨⟨u, h1, h2, h3⟩, h5, h4⟩ := hi
      exact ⟨⟨u, h1.alloc _, h2.alloc _, h3⟩, by simp; omega, below_alloc h4 _⟩
    · exact hi.2.1
  case body =>
    rintro l pre x a' W hl ⟨r, hr⟩ ⟨⟨u, hv, hrow, _⟩, hsz, hB⟩ ⟨Bx, hBx, bX, rfl⟩ hlt
    have x0 : W.cell? ⟨Bx, 0, none⟩ = some (.int .i64 x.1) := (blk_cell bX 0).trans rfl
    have x1 : W.cell? ⟨Bx, 1, none⟩ = some (.int .i64 x.2) := (blk_cell bX 1).trans rfl
    have hc0 := hv.cell
    obtain ⟨i0, hi, hz0, hz1, hz2⟩ := info_parts info72
    gi_wp2_with (first
      | (gi_at_builtin; refine wpListIn_append_own _ rfl _ _ 50 rfl w.heap.size 72 i0 _ 2 16 Tryz.underlying50 hi hz0 hz1 hz2 rfl (by decide) _ _ _ rfl (hrow.alloc _) ⟨W.heap.size, 0, none⟩ 1 1 [.int .i64 x.1, .int .i64 x.2] rfl rfl (cell_two_new _ _ _ _) (by simp [Value.oneCell']) (by simp [maxLen]; omega) (by omega) (by have := hB.size; simp; omega) ?_; intro v' w1 hown' hgrow _; obtain ⟨g', cap', rfl⟩ := ownsRow_succ hown'; obtain ⟨hv1, hv2, hr2, hk2, hb2⟩ := hv.appended (by decide) hrow hB.size (by omega) hown' hgrow; have hc1 := hv1.cell; have hf1 := hv1.frozen))
    exact ⟨hk2.from _, KM_append hv hrow hgrow hb2, ⟨⟨_, hv2, by rw [flatR_snoc]; simpa using hr2, trivial⟩, Nat.le_trans hsz hb2.size, hB.trans hb2⟩⟩
  case done =>
    rintro D ys W hD rfl ⟨⟨u, hv, hrow, _⟩, hsz, hB⟩ hK
    obtain ⟨A, n, c, rfl⟩ : ∃ A n c, u = .slice A n c := by
      rcases hrow.2 with ⟨rfl, _⟩ | ⟨g, cap, cur, rfl, _⟩
      · exact ⟨_, _, _, rfl⟩
      · exact ⟨_, _, _, rfl⟩
    have hc0 := hv.cell
    have hf0 := hv.frozen
    gi_wp2
    have hv2 := hv.set (.slice A n c)
    have hk2 := (KeepsOthers.setCell W ⟨Bo, 0, none⟩ (.slice A n c)).same D _ hK rfl
    have hu50 := Tryz.underlying50
    have hc2 : ((W.setCell ⟨Bo, 0, none⟩ (.slice A n c)).putObj D (.deferred none)).cell? ⟨Bo, 0, none⟩ = some (.slice A n c) := cell_kept hv2.cell (grownBy_putObj' _ D (.deferred none)) (fun r e => by cases e; exact ⟨_, hk2, rfl⟩)
    have hlen2 : (uptoB den G G.length).length = G.length := uptoB_len _ _ _
    rw [hlen2] at hrow
    have hne : (Value.slice A n c).ownBlock ≠ some Bo := (hv.not_row (by decide) hrow).symm
    have hr2 := hrow.kept (grownBy_setCell' W Bo (.slice A n c)) (.inr (fun e => hne (by simpa using e)))
    have hb2 : Below w.heap.size W (W.setCell ⟨Bo, 0, none⟩ (.slice A n c)) := (Below.refl _ _).setCell (p := ⟨Bo, 0, none⟩) (by simp; omega) _
    have hsd := hB2.size
    refine ⟨by simp, .inl ⟨_, _, rfl, run_takeDeferred hk2, ?_⟩⟩
    refine ⟨.tuple #[.slice A n c, .int .i64 0], ?_, ?_⟩
    · simp [results, hc2, go_sem]
    · exact ⟨_, rfl, ownsRow_putObj hr2 _ hk2 rfl, (hB.trans hb2).trans (belowK_b (w := w) (Nat.le_refl _) _ D _ _ (by omega) hk2 rfl rfl)⟩
  case stop => rintro D c pre W _ _ h _; exact h.elim
/-- The beats, as rows of the heap have them. -/
def rowsP (ps : List (Int × Int)) : List S72 := ps.map fun p => ⟨p.1, p.2⟩
theorem rowsP_R {w : World} {base n : Nat} {v : Value} {ps : List (Int × Int)} (h : w.ownsRow base 72 2 v n (flatR ps)) (hn : ps.length = n) : Kd.R k72 72 w base (fun _ => True) v (rowsP ps) := by
  refine ⟨fun _ _ => trivial, flatR ps, (by rw [rowsP, List.length_map, hn]; exact h), ?_⟩
  clear h hn
  induction ps with
  | nil => exact Reps.none _ _
  | cons p t ih => exact Reps.c2 (k72_mkM _ _ _ ⟨p.1, p.2⟩) ih
def meter_Beats.f (k : Nat) (a0_0 : Int) (a0_1 : Int) (l0_2 : List Int) : Option ((List (S72)) × Int) := (meter_Right.f k a0_0 a0_1 l0_2).bind fun t => if t = true then (if goodM a0_0 a0_1 l0_2 = true then some (rowsP (beatsP a0_0 a0_1 l0_2), 0) else none) else some ([], 50)
theorem meter_Beats.mono : ∀ a0 a1 a2 k, LeO (meter_Beats.f k a0 a1 a2) (meter_Beats.f (k + 1) a0 a1 a2) := by
  intro a0 a1 a2 k r h
  unfold meter_Beats.f at h ⊢
  obtain ⟨t, ht, h⟩ := Option.bind_eq_some_iff.mp h
  rw [meter_Right.mono _ _ _ _ _ ht]
  exact h
set_option maxHeartbeats 4000000 in
set_option maxRecDepth 100000 in
theorem Beats_no (num den : Int) (v : Value) (w : World)
    (hR : ∀ W, Below w.heap.size w W → Calls Tryz.prog 38 #[.agg #[.int .i64 num, .int .i64 den, v]] W fun e W' => e = .returned (.bool false) ∧ Below W.heap.size W W') :
    Calls Tryz.prog 18 #[.agg #[.int .i64 num, .int .i64 den, v]] w fun e w' => e = .returned (.tuple #[.slice none 0 0, .int .i64 50]) ∧ Below w.heap.size w w' := by
  have hu29 := Tryz.underlying29
  have hu72 := Tryz.underlying72
  refine (callsIn_wide (n := 6)).1 ?_
  refine callsIn_of_wp_marks Tryz.func18 rfl trivial ?_ rfl
  simp only [Tryz.ntmps18, List.size_toArray, List.length_cons, List.length_nil, Nat.reduceAdd, Nat.reduceSub, Array.replicate_succ, Array.replicate_zero, List.push_toArray, List.append_toArray, List.nil_append, List.cons_append]
  have hB0 : Below w.heap.size w ((w.alloc (.cells #[.int .i64 num, .int .i64 den, v] 29)).alloc (.cells #[.slice none 0 0] 50)) := below_alloc (below_alloc (Below.refl _ _) _) _
  have BO0 := blk_new (w.alloc (.cells #[.int .i64 num, .int .i64 den, v] 29)) (.cells #[.slice none 0 0] 50)
  rw [World.size_alloc] at BO0
  gi_wp2
  refine ⟨trivial, ?_⟩
  refine (callsIn_wide.2 (hR _ hB0)).mono ?_
  rintro e w1 ⟨rfl, hb1⟩
  have BO1 : Boxed w1 (w.heap.size + 1) 50 (.slice none 0 0) := blk_below BO0 hb1
  have hB1 := below_step hB0 hb1
  clear hb1 hB0 BO0
  have hc0 := BO1.cell
  have hf0 := BO1.frozen
  gi_wp2
  have hu50 := Tryz.underlying50
  have hc := (BO1.set (.slice none 0 0)).cell
  refine ⟨.tuple #[.slice none 0 0, .int .i64 50], ?_, rfl, hB1.setCell (p := ⟨w.heap.size + 1, 0, none⟩) (by simp) _⟩
  simp [results, hc, go_sem]
theorem meter_Beats.calls (k : Nat) (a0_0 : Int) (a0_1 : Int) (A0_2 : Option Addr) (c0_2 : Nat) (l0_2 : List Int) (r1 : List (S72)) (r2 : Int) (w : World) (hr0_2 : Kd.C (Kd.int .i64) w A0_2 l0_2.length l0_2) (hc0_2 : l0_2.length ≤ c0_2) (h : meter_Beats.f k a0_0 a0_1 l0_2 = some (r1, r2)) :
    Calls Tryz.prog 18 #[.agg #[.int .i64 a0_0, .int .i64 a0_1, .slice A0_2 l0_2.length c0_2]] w fun e w' => ∃ v0_ : Value, e = .returned (.tuple #[v0_, .int .i64 r2]) ∧ Kd.R k72 72 w' w.heap.size (fun _ => True) v0_ r1 ∧ Below w.heap.size w w' := by
  unfold meter_Beats.f at h
  obtain ⟨t, hT, h⟩ := Option.bind_eq_some_iff.mp h
  have HR := fun W (hb : Below w.heap.size w W) => meter_Right.calls k a0_0 a0_1 A0_2 c0_2 l0_2 t W (Kd.C_below hr0_2 hb) hc0_2 hT
  cases t with
  | false =>
    simp only [Bool.false_eq_true, if_false, Option.some.injEq, Prod.mk.injEq] at h
    obtain ⟨rfl, rfl⟩ := h
    refine (Beats_no a0_0 a0_1 _ w HR).mono ?_
    rintro e W ⟨rfl, hb⟩
    exact ⟨_, rfl, rowsP_R (ps := []) (own_nil _ _ _ _) rfl, hb⟩
  | true =>
    simp only [if_true] at h
    split at h
    case isFalse => cases h
    rename_i hgood
    obtain ⟨g1, g2, g3, g4, g5, g6⟩ := goodM_of hgood
    simp only [Option.some.injEq, Prod.mk.injEq] at h
    obtain ⟨rfl, rfl⟩ := h
    refine (Beats_ok a0_0 a0_1 _ (grp a0_0 a0_1 l0_2) w HR (fun W hb => groups_ok a0_0 a0_1 A0_2 c0_2 l0_2 w W g1 g2 hr0_2 hc0_2 hb) (of_some g3 g4) (good_sums hgood) (by omega)).mono ?_
    rintro e W ⟨v', rfl, ho, hb⟩
    exact ⟨_, rfl, rowsP_R ho (uptoB_len _ _ _), hb⟩
end

-- NOT PRINTED: function 78 (api_Event)

-- NOT PRINTED: function 81 (voice_tied)

end Go.Proofs.YtocjbedacnlaaaaGreatDoor.Q
