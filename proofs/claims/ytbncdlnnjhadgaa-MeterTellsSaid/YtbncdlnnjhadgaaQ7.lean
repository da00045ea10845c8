-- Written by a program of this session (myprint.py), function by function.
import Derived.Test.YtbncdlnnjhadgaaQ0
import Derived.Test.YtbncdlnnjhadgaaQ2
import Derived.IntWalk
import Derived.Maps.AppendAt
import Derived.Shelf.Abstract
namespace Go.Proofs.Ytbncdlnnjhadgaa.Q
open Go.RowKit Go.Proofs.YtbncdlnnjhadgaaW.PrintWords Go.Proofs.YtbncdlnnjhadgaaW.PrintLast Go.Proofs.YtbncdlnnjhadgaaW.PrintMore
attribute [local go_sem] max2_int min2_int max_two min_two max_three min_three max_four min_four   -- for this text's walks alone
set_option linter.unusedVariables false
set_option linter.unusedSimpArgs false

/-! ### partitaref05_Right: function 17 -/
mutual
def partitaref05_Right.j0 : Nat → Bool → Int → Int → List Int → Option (Bool)
 | 0, _, _, _, _ => none
 | k + 1, x14, x145000, x145001, x145002 => if x14 = true then (some false) else (partitaref05_Right.l0 k false 1 x145000 x145001 x145002)
def partitaref05_Right.l0 : Nat → Bool → Int → Int → Int → List Int → Option (Bool)
 | 0, _, _, _, _, _ => none
 | k + 1, x3, x4, x145000, x145001, x145002 => if x4 ≤ 64 then (if x3 = true then (partitaref05_Right.l0 k true (wrap64 (2 * x4)) x145000 x145001 x145002) else (partitaref05_Right.l0 k (x145001 == x4) (wrap64 (2 * x4)) x145000 x145001 x145002)) else (if x3 = true then (partitaref05_Right.l1 k 0 0 x145000 x145001 x145002) else (some false))
def partitaref05_Right.l1 : Nat → Int → Int → Int → Int → List Int → Option (Bool)
 | 0, _, _, _, _, _ => none
 | k + 1, x5, x6, x145000, x145001, x145002 => if x6 < (x145002.length : Int) then (if 0 ≤ x6 then (if (rd x145002 x6) < 1 then (some false) else (if (rd x145002 x6) > 32 then (some false) else (partitaref05_Right.l1 k (wrap64 (x5 + (rd x145002 x6))) (wrap64 (x6 + 1)) x145000 x145001 x145002))) else (none)) else (if (x145002.length : Int) = 0 then (some true) else (some (x5 == x145000)))
end
def partitaref05_Right.f (k : Nat) (a0_0 : Int) (a0_1 : Int) (l0_2 : List Int) : Option (Bool) := if a0_0 < 1 then (partitaref05_Right.j0 k true a0_0 a0_1 l0_2) else (partitaref05_Right.j0 k (decide (a0_0 > 32)) a0_0 a0_1 l0_2)
theorem partitaref05_Right.mono_l : ∀ k, (∀ y0 y1 y2 y3, LeO (partitaref05_Right.j0 k y0 y1 y2 y3) (partitaref05_Right.j0 (k + 1) y0 y1 y2 y3)) ∧ (∀ y0 y1 y2 y3 y4, LeO (partitaref05_Right.l0 k y0 y1 y2 y3 y4) (partitaref05_Right.l0 (k + 1) y0 y1 y2 y3 y4)) ∧ (∀ y0 y1 y2 y3 y4, LeO (partitaref05_Right.l1 k y0 y1 y2 y3 y4) (partitaref05_Right.l1 (k + 1) y0 y1 y2 y3 y4))
 | 0 => ⟨fun _ _ _ _ r h => by simp [partitaref05_Right.j0] at h, fun _ _ _ _ _ r h => by simp [partitaref05_Right.l0] at h, fun _ _ _ _ _ r h => by simp [partitaref05_Right.l1] at h⟩
 | k + 1 => by
  obtain ⟨ih0, ih1, ih2⟩ := partitaref05_Right.mono_l k
  refine ⟨?_, ?_, ?_⟩
  · intro y0 y1 y2 y3
    unfold partitaref05_Right.j0
    repeat' first
    | (with_reducible exact ih0 _ _ _ _)
    | (with_reducible exact ih1 _ _ _ _ _)
    | (with_reducible exact ih2 _ _ _ _ _)
    | (with_reducible exact LeO.refl _)
    | (with_reducible exact LeO.none _)
    | (with_reducible refine LeO.ite ?_ ?_)
    | (with_reducible refine LeO.bind ?_ (fun _ => ?_))
    | exact ih0 _ _ _ _
    | exact ih1 _ _ _ _ _
    | exact ih2 _ _ _ _ _
    | exact LeO.none _
    | refine LeO.ite ?_ ?_
    | refine LeO.bind ?_ (fun _ => ?_)
  · intro y0 y1 y2 y3 y4
    unfold partitaref05_Right.l0
    repeat' first
    | (with_reducible exact ih0 _ _ _ _)
    | (with_reducible exact ih1 _ _ _ _ _)
    | (with_reducible exact ih2 _ _ _ _ _)
    | (with_reducible exact LeO.refl _)
    | (with_reducible exact LeO.none _)
    | (with_reducible refine LeO.ite ?_ ?_)
    | (with_reducible refine LeO.bind ?_ (fun _ => ?_))
    | exact ih0 _ _ _ _
    | exact ih1 _ _ _ _ _
    | exact ih2 _ _ _ _ _
    | exact LeO.none _
    | refine LeO.ite ?_ ?_
    | refine LeO.bind ?_ (fun _ => ?_)
  · intro y0 y1 y2 y3 y4
    unfold partitaref05_Right.l1
    repeat' first
    | (with_reducible exact ih0 _ _ _ _)
    | (with_reducible exact ih1 _ _ _ _ _)
    | (with_reducible exact ih2 _ _ _ _ _)
    | (with_reducible exact LeO.refl _)
    | (with_reducible exact LeO.none _)
    | (with_reducible refine LeO.ite ?_ ?_)
    | (with_reducible refine LeO.bind ?_ (fun _ => ?_))
    | exact ih0 _ _ _ _
    | exact ih1 _ _ _ _ _
    | exact ih2 _ _ _ _ _
    | exact LeO.none _
    | refine LeO.ite ?_ ?_
    | refine LeO.bind ?_ (fun _ => ?_)
theorem partitaref05_Right.mono : ∀ a0 a1 a2 k, LeO (partitaref05_Right.f k a0 a1 a2) (partitaref05_Right.f (k + 1) a0 a1 a2) := by
 intro a0 a1 a2 k
 obtain ⟨ih0, ih1, ih2⟩ := partitaref05_Right.mono_l k
 unfold partitaref05_Right.f
 repeat' first
  | (with_reducible exact ih0 _ _ _ _)
  | (with_reducible exact ih1 _ _ _ _ _)
  | (with_reducible exact ih2 _ _ _ _ _)
  | (with_reducible exact LeO.refl _)
  | (with_reducible exact LeO.none _)
  | (with_reducible refine LeO.ite ?_ ?_)
  | (with_reducible refine LeO.bind ?_ (fun _ => ?_))
  | exact ih0 _ _ _ _
  | exact ih1 _ _ _ _ _
  | exact ih2 _ _ _ _ _
  | exact LeO.none _
  | refine LeO.ite ?_ ?_
  | refine LeO.bind ?_ (fun _ => ?_)
set_option maxHeartbeats 8000000 in
set_option maxRecDepth 100000 in
theorem partitaref05_Right.calls (k : Nat) (a0_0 : Int) (a0_1 : Int) (A0_2 : Option Addr) (c0_2 : Nat) (l0_2 : List Int) (r : Bool) (w : World) (hr0_2 : Kd.C (Kd.int .i64) w A0_2 l0_2.length l0_2) (hc0_2 : l0_2.length ≤ c0_2) (h : partitaref05_Right.f k a0_0 a0_1 l0_2 = some r) :
 Calls Try.prog 17 #[.agg #[.int .i64 a0_0, .int .i64 a0_1, .slice A0_2 l0_2.length c0_2]] w fun e w' => e = .returned (.bool r) ∧ Below w.heap.size w w' := by
 have hu24 := Try.underlying24
 have HR0_2 := Aside0.mk hr0_2
 have HC0_2 := Aside0.mk hc0_2
 clear hr0_2 hc0_2
 have HB := Aside0.mk (Below.refl w.heap.size w)
 have H : (if a0_0 < 1 then (partitaref05_Right.j0 k true a0_0 a0_1 l0_2) else (partitaref05_Right.j0 k (decide (a0_0 > 32)) a0_0 a0_1 l0_2)) = some r := h
 clear h
 have HC2 := Aside0.mk H
 clear H
 go_enter Try.func17, Try.ntmps17
 go_upto_region 1 with (first | ((with_reducible refine gate_dst (N := 1) rfl ?_); refine box_event ?hg (N := 1) ?hd (cs := #[.int .i64 a0_0, .int .i64 a0_1, .slice A0_2 l0_2.length c0_2]) (t := 24) ?hr ?_; (case hd => rfl); (case hg => rfl); (case hr => first | (go_simp; done) | (go_simp; rfl)); intro gb144 hg w3 hbox hb; have n0_ := Aside0.mk (below_step (by repeat (first | (with_reducible first | exact HB.out | apply below_alloc | apply pw_below_drewN | apply below_drew1) | exact HB.out)) hb); have n1_ := Aside0.mk (hbox); have n2_ := Aside0.mk ((by rw [hg]; exact (below_size (by repeat (first | (with_reducible first | exact HB.out | apply below_alloc | apply pw_below_drewN | apply below_drew1) | exact HB.out))) : w.heap.size ≤ gb144)); have n3_ := Aside0.mk ((by rw [hg]; exact (below_size (by repeat (first | (with_reducible first | exact HB.out | apply below_alloc | apply pw_below_drewN | apply below_drew1) | exact HB.out))) : w.heap.size ≤ gb144)); clear HB; have HB := n0_; have BK144 := n1_; have GW144 := n2_; have GE144 := n3_; clear n0_ n1_ n2_ n3_; clear hb hbox hg))
 (try simp only [Act.put, qa_, qz_, qs_])
 go_cut [14] (fun v14 wc => ∃ (kq : Nat) (x14_1 : Bool), v14 = .bool x14_1 ∧ Aside0 (partitaref05_Right.j0 kq x14_1 a0_0 a0_1 l0_2 = some r) ∧ Aside0 (kq ≤ k) ∧ Aside0 (wc.heap[gb144]? = some (.cells #[.int .i64 a0_0, .int .i64 a0_1, (.slice A0_2 l0_2.length c0_2)] 24 (0, 0))) ∧ Aside0 (Below w.heap.size w wc))
 case first =>
  have H := HC2.out
  clear HC2
  by_cases c4 : a0_0 < 1
  · rw [if_pos c4] at H
    have c4b0 : decide (a0_0 < 1) = true := decide_eq_true c4
    clear c4
    (first | rw [c4b0] | (simp only [i64_w, i32_w]; rw [c4b0]) | skip)
    have H' := Aside0.mk H
    clear H
    have hcz5_0 : w3.cell? ⟨gb144, 0, none⟩ = some (.int .i64 a0_0) := (blk_cell BK144.out 0).trans rfl
    have hcz5_1 : w3.cell? ⟨gb144, 1, none⟩ = some (.int .i64 a0_1) := (blk_cell BK144.out 1).trans rfl
    have hcz5_2 : w3.cell? ⟨gb144, 2, none⟩ = some (.slice A0_2 l0_2.length c0_2) := (blk_cell BK144.out 2).trans rfl
    have hfz5_0 := blk_frozen BK144.out 0
    have hfz5_1 := blk_frozen BK144.out 1
    have hfz5_2 := blk_frozen BK144.out 2
    go_wp2
    go_meet
    case rel => exact ⟨_, (true), (by first | rfl | (simp; done) | (simp [*]; done) | (simp [wrap64]; done)), H', ⟨by first | omega | exact Nat.le_refl _⟩, ⟨by (with_reducible repeat (first | refine blk_drewN ?_ _ | refine blk_drew ?_ | refine blk_alloc ?_ _)); exact BK144.out⟩, ⟨by repeat (first | (with_reducible first | exact HB.out | apply below_alloc | apply pw_below_drewN | apply below_drew1 | refine below_set ?_ GE144.out) | exact HB.out)⟩⟩
  · rw [if_neg c4] at H
    have c4b0 : decide (a0_0 < 1) = false := decide_eq_false c4
    clear c4
    (first | rw [c4b0] | (simp only [i64_w, i32_w]; rw [c4b0]) | skip)
    have H' := Aside0.mk H
    clear H
    have hcz6_0 : w3.cell? ⟨gb144, 0, none⟩ = some (.int .i64 a0_0) := (blk_cell BK144.out 0).trans rfl
    have hcz6_1 : w3.cell? ⟨gb144, 1, none⟩ = some (.int .i64 a0_1) := (blk_cell BK144.out 1).trans rfl
    have hcz6_2 : w3.cell? ⟨gb144, 2, none⟩ = some (.slice A0_2 l0_2.length c0_2) := (blk_cell BK144.out 2).trans rfl
    have hfz6_0 := blk_frozen BK144.out 0
    have hfz6_1 := blk_frozen BK144.out 1
    have hfz6_2 := blk_frozen BK144.out 2
    go_wp2
    go_meet
    case rel => exact ⟨_, (decide (a0_0 > 32)), (by first | rfl | (simp; done) | (simp [*]; done) | (simp [wrap64]; done)), H', ⟨by first | omega | exact Nat.le_refl _⟩, ⟨by (with_reducible repeat (first | refine blk_drewN ?_ _ | refine blk_drew ?_ | refine blk_alloc ?_ _)); exact BK144.out⟩, ⟨by repeat (first | (with_reducible first | exact HB.out | apply below_alloc | apply pw_below_drewN | apply below_drew1 | refine below_set ?_ GE144.out) | exact HB.out)⟩⟩
 case rest =>
  clear HC2
  try clear c1
  try clear p2
  try clear c4
  try clear c4b0
  try clear hcz5_0
  try clear hcz5_1
  try clear hcz5_2
  try clear hcz6_0
  try clear hcz6_1
  try clear hcz6_2
  try clear hfz5_0
  try clear hfz5_1
  try clear hfz5_2
  try clear hfz6_0
  try clear hfz6_1
  try clear hfz6_2
  obtain ⟨kq, x14_1, rfl, HA, HJ1, BK144, HB⟩ := hcut
  cases kq with
  | zero => exact absurd HA.out (by simp [partitaref05_Right.j0])
  | succ kj1 =>
   have H := HA.out
   clear HA
   simp only [partitaref05_Right.j0] at H
   by_cases c7 : x14_1 = true
   · subst c7
     have H1 : (some false) = some r := by rw [if_pos rfl] at H; exact H
     clear H
     have H := H1
     clear H1
     obtain rfl := Option.some.inj H
     go_wp2
     go_ret
     exact ⟨by first | rfl | (simp [errW_none, errW_some] <;> rfl) | (simp [*, errW_none, errW_some] <;> rfl), by repeat (first | (with_reducible first | exact HB.out | apply below_alloc | apply pw_below_drewN | apply below_drew1 | refine below_set ?_ GE144.out) | exact HB.out)⟩
   · replace c7 := Bool.eq_false_iff.mpr c7
     subst c7
     have H1 : (partitaref05_Right.l0 kj1 false 1 a0_0 a0_1 l0_2) = some r := by rw [if_neg (show ¬ (false = true) by decide)] at H; exact H
     clear H
     have H := H1
     clear H1
     have H' := Aside0.mk H
     clear H
     go_wp2
     go_loopg [3, 4] kj1 (fun kq v3 v4 w' => ∃ (x3_2 : Bool) (x4_2 : Int), v3 = .bool x3_2 ∧ v4 = .int .i64 x4_2 ∧ Aside0 (partitaref05_Right.l0 kq x3_2 x4_2 a0_0 a0_1 l0_2 = some r) ∧ Aside0 (kq ≤ kj1) ∧ Aside0 (w'.heap[gb144]? = some (.cells #[.int .i64 a0_0, .int .i64 a0_1, (.slice A0_2 l0_2.length c0_2)] 24 (0, 0))) ∧ Aside0 (Below w.heap.size w w'))
     case atStart => exact ⟨(false), (1), (by first | rfl | (simp; done) | (simp [*]; done) | (simp [wrap64]; done)), (by first | rfl | (simp; done) | (simp [*]; done) | (simp [wrap64]; done)), H', ⟨Nat.le_refl _⟩, ⟨by (with_reducible repeat (first | refine blk_drewN ?_ _ | refine blk_drew ?_ | refine blk_alloc ?_ _)); exact BK144.out⟩, ⟨by repeat (first | (with_reducible first | exact HB.out | apply below_alloc | apply pw_below_drewN | apply below_drew1 | refine below_set ?_ GE144.out) | exact HB.out)⟩⟩
     case round =>
      clear H'
      try clear c1
      try clear p2
      try clear c4
      try clear c4b0
      try clear c7
      try clear hcz5_0
      try clear hcz5_1
      try clear hcz5_2
      try clear hcz6_0
      try clear hcz6_1
      try clear hcz6_2
      try clear hfz5_0
      try clear hfz5_1
      try clear hfz5_2
      try clear hfz6_0
      try clear hfz6_1
      try clear hfz6_2
      try clear p2
      obtain ⟨x3_2, x4_2, rfl, rfl, HA, HK2, BK144, HB⟩ := hrel
      cases gk with
      | zero => exact absurd HA.out (by simp [partitaref05_Right.l0])
      | succ k2 =>
       have H := HA.out
       clear HA
       simp only [partitaref05_Right.l0] at H
       by_cases c8 : x4_2 ≤ 64
       · rw [if_pos c8] at H
         have c8b0 : decide (x4_2 ≤ 64) = true := decide_eq_true c8
         clear c8
         by_cases c9 : x3_2 = true
         · subst c9
           have H1 : (partitaref05_Right.l0 k2 true (wrap64 (2 * x4_2)) a0_0 a0_1 l0_2) = some r := by rw [if_pos rfl] at H; exact H
           clear H
           have H := H1
           clear H1
           have H' := Aside0.mk H
           clear H
           go_wp2
           go_roundg k2
           case measure => have := HJ1.out; have := HK2.out; omega
           case rel => exact ⟨(true), (wrap64 (2 * x4_2)), (by first | rfl | (simp; done) | (simp [*]; done) | (simp [wrap64]; done)), (by first | rfl | (simp; done) | (simp [*]; done) | (simp [wrap64]; done)), H', ⟨by have := HJ1.out; have := HK2.out; omega⟩, ⟨by (with_reducible repeat (first | refine blk_drewN ?_ _ | refine blk_drew ?_ | refine blk_alloc ?_ _)); exact BK144.out⟩, ⟨by repeat (first | (with_reducible first | exact HB.out | apply below_alloc | apply pw_below_drewN | apply below_drew1 | refine below_set ?_ GE144.out) | exact HB.out)⟩⟩
         · replace c9 := Bool.eq_false_iff.mpr c9
           subst c9
           have H1 : (partitaref05_Right.l0 k2 (a0_1 == x4_2) (wrap64 (2 * x4_2)) a0_0 a0_1 l0_2) = some r := by rw [if_neg (show ¬ (false = true) by decide)] at H; exact H
           clear H
           have H := H1
           clear H1
           have H' := Aside0.mk H
           clear H
           have hcz10_0 : wr.cell? ⟨gb144, 0, none⟩ = some (.int .i64 a0_0) := (blk_cell BK144.out 0).trans rfl
           have hcz10_1 : wr.cell? ⟨gb144, 1, none⟩ = some (.int .i64 a0_1) := (blk_cell BK144.out 1).trans rfl
           have hcz10_2 : wr.cell? ⟨gb144, 2, none⟩ = some (.slice A0_2 l0_2.length c0_2) := (blk_cell BK144.out 2).trans rfl
           have hfz10_0 := blk_frozen BK144.out 0
           have hfz10_1 := blk_frozen BK144.out 1
           have hfz10_2 := blk_frozen BK144.out 2
           go_wp2
           go_roundg k2
           case measure => have := HJ1.out; have := HK2.out; omega
           case rel => exact ⟨((a0_1 == x4_2)), (wrap64 (2 * x4_2)), (by first | rfl | (simp; done) | (simp [*]; done) | (simp [wrap64]; done)), (by first | rfl | (simp; done) | (simp [*]; done) | (simp [wrap64]; done)), H', ⟨by have := HJ1.out; have := HK2.out; omega⟩, ⟨by (with_reducible repeat (first | refine blk_drewN ?_ _ | refine blk_drew ?_ | refine blk_alloc ?_ _)); exact BK144.out⟩, ⟨by repeat (first | (with_reducible first | exact HB.out | apply below_alloc | apply pw_below_drewN | apply below_drew1 | refine below_set ?_ GE144.out) | exact HB.out)⟩⟩
       · rw [if_neg c8] at H
         have c8b0 : decide (x4_2 ≤ 64) = false := decide_eq_false c8
         clear c8
         by_cases c11 : x3_2 = true
         · subst c11
           have H1 : (partitaref05_Right.l1 k2 0 0 a0_0 a0_1 l0_2) = some r := by rw [if_pos rfl] at H; exact H
           clear H
           have H := H1
           clear H1
           have H' := Aside0.mk H
           clear H
           go_wp2
           go_loopg [5, 6] k2 (fun kq v5 v6 w' => ∃ (x5_3 : Int) (x6_3 : Int), v5 = .int .i64 x5_3 ∧ v6 = .int .i64 x6_3 ∧ Aside0 (partitaref05_Right.l1 kq x5_3 x6_3 a0_0 a0_1 l0_2 = some r) ∧ Aside0 (kq ≤ k2) ∧ Aside0 (w'.heap[gb144]? = some (.cells #[.int .i64 a0_0, .int .i64 a0_1, (.slice A0_2 l0_2.length c0_2)] 24 (0, 0))) ∧ Aside0 (Below w.heap.size w w'))
           case atStart => exact ⟨(0), (0), (by first | rfl | (simp; done) | (simp [*]; done) | (simp [wrap64]; done)), (by first | rfl | (simp; done) | (simp [*]; done) | (simp [wrap64]; done)), H', ⟨Nat.le_refl _⟩, ⟨by (with_reducible repeat (first | refine blk_drewN ?_ _ | refine blk_drew ?_ | refine blk_alloc ?_ _)); exact BK144.out⟩, ⟨by repeat (first | (with_reducible first | exact HB.out | apply below_alloc | apply pw_below_drewN | apply below_drew1 | refine below_set ?_ GE144.out) | exact HB.out)⟩⟩
           case round =>
            clear H'
            try clear c1
            try clear p2
            try clear c4
            try clear c4b0
            try clear p6
            try clear c7
            try clear c8
            try clear c8b0
            try clear c9
            try clear c11
            try clear hcz10_0
            try clear hcz10_1
            try clear hcz10_2
            try clear hcz5_0
            try clear hcz5_1
            try clear hcz5_2
            try clear hcz6_0
            try clear hcz6_1
            try clear hcz6_2
            try clear hfz10_0
            try clear hfz10_1
            try clear hfz10_2
            try clear hfz5_0
            try clear hfz5_1
            try clear hfz5_2
            try clear hfz6_0
            try clear hfz6_1
            try clear hfz6_2
            try clear p2
            obtain ⟨x5_3, x6_3, rfl, rfl, HA, HK3, BK144, HB⟩ := hrel
            cases gk with
            | zero => exact absurd HA.out (by simp [partitaref05_Right.l1])
            | succ k3 =>
             have H := HA.out
             clear HA
             simp only [partitaref05_Right.l1] at H
             by_cases c12 : x6_3 < (l0_2.length : Int)
             · rw [if_pos c12] at H
               have c12b0 : decide (x6_3 < (l0_2.length : Int)) = true := decide_eq_true c12
               clear c12
               by_cases c13 : 0 ≤ x6_3
               · rw [if_pos c13] at H
                 have c13b0 : decide (0 ≤ x6_3) = true := decide_eq_true c13
                 clear c13
                 by_cases c14 : (rd l0_2 x6_3) < 1
                 · rw [if_pos c14] at H
                   have c14b0 : decide ((rd l0_2 x6_3) < 1) = true := decide_eq_true c14
                   clear c14
                   obtain rfl := Option.some.inj H
                   have hcz15_0 : wr.cell? ⟨gb144, 0, none⟩ = some (.int .i64 a0_0) := (blk_cell BK144.out 0).trans rfl
                   have hcz15_1 : wr.cell? ⟨gb144, 1, none⟩ = some (.int .i64 a0_1) := (blk_cell BK144.out 1).trans rfl
                   have hcz15_2 : wr.cell? ⟨gb144, 2, none⟩ = some (.slice A0_2 l0_2.length c0_2) := (blk_cell BK144.out 2).trans rfl
                   have hfz15_0 := blk_frozen BK144.out 0
                   have hfz15_1 := blk_frozen BK144.out 1
                   have hfz15_2 := blk_frozen BK144.out 2
                   have p145 : 0 ≤ (x6_3 : Int) := of_decide_eq_true (by first | (with_reducible assumption) | assumption)
                   have q145 : x6_3 < (l0_2.length : Int) := of_decide_eq_true (by first | (with_reducible assumption) | assumption)
                   obtain ⟨ad145, e145, hx145_0⟩ := Kd.at_int HR0_2.out x6_3 p145 q145
                   cases e145
                   replace hx145_0 := (HB.out.cell (World.block_lt_of_cell? w _ hx145_0)).trans hx145_0
                   replace p145 := eq_true p145
                   replace q145 := eq_true q145
                   go_wp2
                   go_ret
                   exact ⟨by first | rfl | (simp [errW_none, errW_some] <;> rfl) | (simp [*, errW_none, errW_some] <;> rfl), by repeat (first | (with_reducible first | exact HB.out | apply below_alloc | apply pw_below_drewN | apply below_drew1 | refine below_set ?_ GE144.out) | exact HB.out)⟩
                 · rw [if_neg c14] at H
                   have c14b0 : decide ((rd l0_2 x6_3) < 1) = false := decide_eq_false c14
                   clear c14
                   by_cases c16 : (rd l0_2 x6_3) > 32
                   · rw [if_pos c16] at H
                     have c16b0 : decide (32 < (rd l0_2 x6_3)) = true := decide_eq_true c16
                     clear c16
                     obtain rfl := Option.some.inj H
                     have hcz17_0 : wr.cell? ⟨gb144, 0, none⟩ = some (.int .i64 a0_0) := (blk_cell BK144.out 0).trans rfl
                     have hcz17_1 : wr.cell? ⟨gb144, 1, none⟩ = some (.int .i64 a0_1) := (blk_cell BK144.out 1).trans rfl
                     have hcz17_2 : wr.cell? ⟨gb144, 2, none⟩ = some (.slice A0_2 l0_2.length c0_2) := (blk_cell BK144.out 2).trans rfl
                     have hfz17_0 := blk_frozen BK144.out 0
                     have hfz17_1 := blk_frozen BK144.out 1
                     have hfz17_2 := blk_frozen BK144.out 2
                     have p145 : 0 ≤ (x6_3 : Int) := of_decide_eq_true (by first | (with_reducible assumption) | assumption)
                     have q145 : x6_3 < (l0_2.length : Int) := of_decide_eq_true (by first | (with_reducible assumption) | assumption)
                     obtain ⟨ad145, e145, hx145_0⟩ := Kd.at_int HR0_2.out x6_3 p145 q145
                     cases e145
                     replace hx145_0 := (HB.out.cell (World.block_lt_of_cell? w _ hx145_0)).trans hx145_0
                     replace p145 := eq_true p145
                     replace q145 := eq_true q145
                     have p146 : 0 ≤ (x6_3 : Int) := of_decide_eq_true (by first | (with_reducible assumption) | assumption)
                     have q146 : x6_3 < (l0_2.length : Int) := of_decide_eq_true (by first | (with_reducible assumption) | assumption)
                     obtain ⟨ad146, e146, hx146_0⟩ := Kd.at_int HR0_2.out x6_3 p146 q146
                     obtain rfl : ad145 = ad146 := (by injection e146)
                     replace hx146_0 := (HB.out.cell (World.block_lt_of_cell? w _ hx146_0)).trans hx146_0
                     replace p146 := eq_true p146
                     replace q146 := eq_true q146
                     go_wp2
                     go_ret
                     exact ⟨by first | rfl | (simp [errW_none, errW_some] <;> rfl) | (simp [*, errW_none, errW_some] <;> rfl), by repeat (first | (with_reducible first | exact HB.out | apply below_alloc | apply pw_below_drewN | apply below_drew1 | refine below_set ?_ GE144.out) | exact HB.out)⟩
                   · rw [if_neg c16] at H
                     have c16b0 : decide (32 < (rd l0_2 x6_3)) = false := decide_eq_false c16
                     clear c16
                     have H' := Aside0.mk H
                     clear H
                     have hcz18_0 : wr.cell? ⟨gb144, 0, none⟩ = some (.int .i64 a0_0) := (blk_cell BK144.out 0).trans rfl
                     have hcz18_1 : wr.cell? ⟨gb144, 1, none⟩ = some (.int .i64 a0_1) := (blk_cell BK144.out 1).trans rfl
                     have hcz18_2 : wr.cell? ⟨gb144, 2, none⟩ = some (.slice A0_2 l0_2.length c0_2) := (blk_cell BK144.out 2).trans rfl
                     have hfz18_0 := blk_frozen BK144.out 0
                     have hfz18_1 := blk_frozen BK144.out 1
                     have hfz18_2 := blk_frozen BK144.out 2
                     have p145 : 0 ≤ (x6_3 : Int) := of_decide_eq_true (by first | (with_reducible assumption) | assumption)
                     have q145 : x6_3 < (l0_2.length : Int) := of_decide_eq_true (by first | (with_reducible assumption) | assumption)
                     obtain ⟨ad145, e145, hx145_0⟩ := Kd.at_int HR0_2.out x6_3 p145 q145
                     cases e145
                     replace hx145_0 := (HB.out.cell (World.block_lt_of_cell? w _ hx145_0)).trans hx145_0
                     replace p145 := eq_true p145
                     replace q145 := eq_true q145
                     have p146 : 0 ≤ (x6_3 : Int) := of_decide_eq_true (by first | (with_reducible assumption) | assumption)
                     have q146 : x6_3 < (l0_2.length : Int) := of_decide_eq_true (by first | (with_reducible assumption) | assumption)
                     obtain ⟨ad146, e146, hx146_0⟩ := Kd.at_int HR0_2.out x6_3 p146 q146
                     obtain rfl : ad145 = ad146 := (by injection e146)
                     replace hx146_0 := (HB.out.cell (World.block_lt_of_cell? w _ hx146_0)).trans hx146_0
                     replace p146 := eq_true p146
                     replace q146 := eq_true q146
                     have p147 : 0 ≤ (x6_3 : Int) := of_decide_eq_true (by first | (with_reducible assumption) | assumption)
                     have q147 : x6_3 < (l0_2.length : Int) := of_decide_eq_true (by first | (with_reducible assumption) | assumption)
                     obtain ⟨ad147, e147, hx147_0⟩ := Kd.at_int HR0_2.out x6_3 p147 q147
                     obtain rfl : ad145 = ad147 := (by injection e147)
                     replace hx147_0 := (HB.out.cell (World.block_lt_of_cell? w _ hx147_0)).trans hx147_0
                     replace p147 := eq_true p147
                     replace q147 := eq_true q147
                     go_wp2
                     go_roundg k3
                     case measure => have := HJ1.out; have := HK2.out; have := HK3.out; omega
                     case rel => exact ⟨(wrap64 (x5_3 + (rd l0_2 x6_3))), (wrap64 (x6_3 + 1)), (by first | rfl | (simp; done) | (simp [*]; done) | (simp [wrap64]; done)), (by first | rfl | (simp; done) | (simp [*]; done) | (simp [wrap64]; done)), H', ⟨by have := HJ1.out; have := HK2.out; have := HK3.out; omega⟩, ⟨by (with_reducible repeat (first | refine blk_drewN ?_ _ | refine blk_drew ?_ | refine blk_alloc ?_ _)); exact BK144.out⟩, ⟨by repeat (first | (with_reducible first | exact HB.out | apply below_alloc | apply pw_below_drewN | apply below_drew1 | refine below_set ?_ GE144.out) | exact HB.out)⟩⟩
               · rw [if_neg c13] at H
                 exact absurd H (by simp)
             · rw [if_neg c12] at H
               have c12b0 : decide (x6_3 < (l0_2.length : Int)) = false := decide_eq_false c12
               clear c12
               by_cases c19 : (l0_2.length : Int) = 0
               · rw [if_pos c19] at H
                 have c19b0 : ((l0_2.length : Int) == 0) = true := beq_iff_eq.mpr c19
                 have c19b1 : ((l0_2.length : Int) != 0) = false := bne_eq_false_iff_eq.mpr c19
                 clear c19
                 obtain rfl := Option.some.inj H
                 have hcz20_0 : wr.cell? ⟨gb144, 0, none⟩ = some (.int .i64 a0_0) := (blk_cell BK144.out 0).trans rfl
                 have hcz20_1 : wr.cell? ⟨gb144, 1, none⟩ = some (.int .i64 a0_1) := (blk_cell BK144.out 1).trans rfl
                 have hcz20_2 : wr.cell? ⟨gb144, 2, none⟩ = some (.slice A0_2 l0_2.length c0_2) := (blk_cell BK144.out 2).trans rfl
                 have hfz20_0 := blk_frozen BK144.out 0
                 have hfz20_1 := blk_frozen BK144.out 1
                 have hfz20_2 := blk_frozen BK144.out 2
                 go_wp2
                 go_ret
                 exact ⟨by first | rfl | (simp [errW_none, errW_some] <;> rfl) | (simp [*, errW_none, errW_some] <;> rfl), by repeat (first | (with_reducible first | exact HB.out | apply below_alloc | apply pw_below_drewN | apply below_drew1 | refine below_set ?_ GE144.out) | exact HB.out)⟩
               · rw [if_neg c19] at H
                 have c19b0 : ((l0_2.length : Int) == 0) = false := beq_eq_false_iff_ne.mpr c19
                 have c19b1 : ((l0_2.length : Int) != 0) = true := bne_iff_ne.mpr c19
                 have c19b2 : ¬ (l0_2 = []) := fun h_ => c19 (by rw [h_]; rfl)
                 obtain rfl := Option.some.inj H
                 have hcz21_0 : wr.cell? ⟨gb144, 0, none⟩ = some (.int .i64 a0_0) := (blk_cell BK144.out 0).trans rfl
                 have hcz21_1 : wr.cell? ⟨gb144, 1, none⟩ = some (.int .i64 a0_1) := (blk_cell BK144.out 1).trans rfl
                 have hcz21_2 : wr.cell? ⟨gb144, 2, none⟩ = some (.slice A0_2 l0_2.length c0_2) := (blk_cell BK144.out 2).trans rfl
                 have hfz21_0 := blk_frozen BK144.out 0
                 have hfz21_1 := blk_frozen BK144.out 1
                 have hfz21_2 := blk_frozen BK144.out 2
                 go_wp2
                 go_ret
                 exact ⟨by first | rfl | (simp [errW_none, errW_some] <;> rfl) | (simp [*, errW_none, errW_some] <;> rfl), by repeat (first | (with_reducible first | exact HB.out | apply below_alloc | apply pw_below_drewN | apply below_drew1 | refine below_set ?_ GE144.out) | exact HB.out)⟩
         · replace c11 := Bool.eq_false_iff.mpr c11
           subst c11
           have H1 : (some false) = some r := by rw [if_neg (show ¬ (false = true) by decide)] at H; exact H
           clear H
           have H := H1
           clear H1
           obtain rfl := Option.some.inj H
           go_wp2
           go_ret
           exact ⟨by first | rfl | (simp [errW_none, errW_some] <;> rfl) | (simp [*, errW_none, errW_some] <;> rfl), by repeat (first | (with_reducible first | exact HB.out | apply below_alloc | apply pw_below_drewN | apply below_drew1 | refine below_set ?_ GE144.out) | exact HB.out)⟩

/-! ### partitaref01_size: function 46 -/
def partitaref01_size.f (a0 : Int) : Option (Int) := if a0 < 0 then (some (IntKind.u64.wrap ((IntKind.u64.wrap (wrap64 (-(wrap64 (a0 + 1))))) + 1))) else (some (IntKind.u64.wrap (a0)))
set_option maxHeartbeats 8000000 in
set_option maxRecDepth 100000 in
theorem partitaref01_size.calls (a0 : Int) (r : Int) (w : World) (h : partitaref01_size.f a0 = some r) :
 Calls Try.prog 46 #[.int .i64 a0] w fun e w' => e = .returned (.int .u64 r) ∧ Drawn0 w w' := by
 have H : (if a0 < 0 then (some (IntKind.u64.wrap ((IntKind.u64.wrap (wrap64 (-(wrap64 (a0 + 1))))) + 1))) else (some (IntKind.u64.wrap (a0)))) = some r := h
 clear h
 by_cases c2 : a0 < 0
 · rw [if_pos c2] at H
   have c2b0 : decide (a0 < 0) = true := decide_eq_true c2
   clear c2
   obtain rfl := Option.some.inj H
   go_enter Try.func46, Try.ntmps46
   go_wp2
   go_ret
   exact ⟨by first | rfl | (simp; done) | (simp [*]; done), by repeat (first | exact Drawn0.refl _ | apply Drawn0.step)⟩
 · rw [if_neg c2] at H
   have c2b0 : decide (a0 < 0) = false := decide_eq_false c2
   clear c2
   obtain rfl := Option.some.inj H
   go_enter Try.func46, Try.ntmps46
   go_wp2
   go_ret
   exact ⟨by first | rfl | (simp; done) | (simp [*]; done), by repeat (first | exact Drawn0.refl _ | apply Drawn0.step)⟩

/-! ### partitaref01_divisor: function 47 -/
theorem gcd_step_r {a b : Int} (ha : 0 ≤ a) (hb : 0 ≤ b) : (Int.gcd b (a % b) : Int) = Int.gcd a b := by
  obtain ⟨m, rfl⟩ := Int.eq_ofNat_of_zero_le ha
  obtain ⟨n, rfl⟩ := Int.eq_ofNat_of_zero_le hb
  rw [← Int.natCast_emod]
  simp only [Int.gcd_natCast_natCast]
  rw [Nat.gcd_comm m n, Nat.gcd_rec n m, Nat.gcd_comm]
def partitaref01_divisor.f (a0 a1 : Int) : Option Int := if 0 ≤ a0 ∧ 0 ≤ a1 then some (Int.gcd a0 a1) else none
set_option maxHeartbeats 400000 in
theorem partitaref01_divisor.calls (a0 a1 : Int) (r : Int) (w : World) (h : partitaref01_divisor.f a0 a1 = some r) :
    Calls Try.prog 47 #[.int .u64 a0, .int .u64 a1] w fun e w' => e = .returned (.int .u64 r) ∧ Drawn0 w w' := by
  unfold partitaref01_divisor.f at h
  split at h
  next hc =>
    obtain ⟨h0, h1⟩ := hc
    have HR := Aside0.mk (Option.some.inj h)
    clear h
    go_enter Try.func47, Try.ntmps47
    go_wp2
    go_loop [0, 1] (fun x y => ∃ a b : Int, x = .int .u64 a ∧ y = .int .u64 b ∧ 0 ≤ a ∧ 0 ≤ b ∧ Aside0 ((Int.gcd a b : Int) = r)) (fun _ y => (intOf y).toNat)
    case atStart => exact ⟨a0, a1, rfl, rfl, h0, h1, HR⟩
    case round =>
      obtain ⟨a, b, rfl, rfl, ha, hb, HT⟩ := hrel
      clear HR h0 h1
      by_cases c : b = 0
      · subst c
        have e : r = a := by rw [← HT.out]; simp; omega
        subst e
        clear HT
        go_wp2
        go_ret
        exact ⟨rfl, Drawn0.refl _⟩
      · have c0 : (b != 0) = true := bne_iff_ne.mpr c
        have hlt : a % b < b := Int.emod_lt_of_pos a (by omega)
        have hge : 0 ≤ a % b := Int.emod_nonneg _ c
        have HS := Aside0.mk ((gcd_step_r ha hb).trans HT.out)
        clear HT
        go_wp2
        go_round
        case rel => exact ⟨b, a % b, rfl, rfl, hb, hge, HS⟩
        case measure => simp [intOf]; omega
  next => cases h

/-! ### partitaref01_Of: function 27 -/
def partitaref01_Of.j0 : Nat → Int → Int → Int → Int → Bool → Option (Int × Int × Int)
 | 0, _, _, _, _, _ => none
 | k + 1, x0, x1, x6, x7, x30 => if x30 = true then (some (0, 0, 10)) else (if ((decide (x0 < 0)) != (decide (x1 < 0))) = true then (some (wrap64 (-(wrap64 (x6))), wrap64 (x7), 0)) else (some (wrap64 (x6), wrap64 (x7), 0)))
def partitaref01_Of.f (k : Nat) (a0 : Int) (a1 : Int) : Option (Int × Int × Int) := if a1 = 0 then (some (0, 0, 11)) else ((partitaref01_size.f a0).bind fun t149 => ((partitaref01_size.f a1).bind fun t150 => ((partitaref01_divisor.f t149 t150).bind fun t151 => (if t151 = 0 then (none) else (if (IntKind.u64.wrap (Int.tdiv t149 t151)) > 1000000000 then (partitaref01_Of.j0 k a0 a1 (IntKind.u64.wrap (Int.tdiv t149 t151)) (IntKind.u64.wrap (Int.tdiv t150 t151)) true) else (partitaref01_Of.j0 k a0 a1 (IntKind.u64.wrap (Int.tdiv t149 t151)) (IntKind.u64.wrap (Int.tdiv t150 t151)) (decide ((IntKind.u64.wrap (Int.tdiv t150 t151)) > 1000000000))))))))
theorem partitaref01_Of.mono_l : ∀ k, (∀ y0 y1 y2 y3 y4, LeO (partitaref01_Of.j0 k y0 y1 y2 y3 y4) (partitaref01_Of.j0 (k + 1) y0 y1 y2 y3 y4))
 | 0 => fun _ _ _ _ _ r h => by simp [partitaref01_Of.j0] at h
 | k + 1 => by
  have ih0 := partitaref01_Of.mono_l k
  · intro y0 y1 y2 y3 y4
    unfold partitaref01_Of.j0
    repeat' first
    | (with_reducible exact ih0 _ _ _ _ _)
    | (with_reducible exact LeO.refl _)
    | (with_reducible exact LeO.none _)
    | (with_reducible refine LeO.ite ?_ ?_)
    | (with_reducible refine LeO.bind ?_ (fun _ => ?_))
    | exact ih0 _ _ _ _ _
    | exact LeO.none _
    | refine LeO.ite ?_ ?_
    | refine LeO.bind ?_ (fun _ => ?_)
theorem partitaref01_Of.mono : ∀ a0 a1 k, LeO (partitaref01_Of.f k a0 a1) (partitaref01_Of.f (k + 1) a0 a1) := by
 intro a0 a1 k
 have ih0 := partitaref01_Of.mono_l k
 unfold partitaref01_Of.f
 repeat' first
  | (with_reducible exact ih0 _ _ _ _ _)
  | (with_reducible exact LeO.refl _)
  | (with_reducible exact LeO.none _)
  | (with_reducible refine LeO.ite ?_ ?_)
  | (with_reducible refine LeO.bind ?_ (fun _ => ?_))
  | exact ih0 _ _ _ _ _
  | exact LeO.none _
  | refine LeO.ite ?_ ?_
  | refine LeO.bind ?_ (fun _ => ?_)
set_option maxHeartbeats 8000000 in
set_option maxRecDepth 100000 in
theorem partitaref01_Of.calls (k : Nat) (a0 : Int) (a1 : Int) (r1 : Int) (r2 : Int) (r3 : Int) (w : World) (h : partitaref01_Of.f k a0 a1 = some (r1, r2, r3)) :
 Calls Try.prog 27 #[.int .i64 a0, .int .i64 a1] w fun e w' => e = .returned (.tuple #[.agg #[.int .i64 r1, .int .i64 r2], .int .i64 r3]) ∧ Below w.heap.size w w' := by
 have hu26 := Try.underlying26
 have HB := Aside0.mk (Below.refl w.heap.size w)
 have H : (if a1 = 0 then (some (0, 0, 11)) else ((partitaref01_size.f a0).bind fun t149 => ((partitaref01_size.f a1).bind fun t150 => ((partitaref01_divisor.f t149 t150).bind fun t151 => (if t151 = 0 then (none) else (if (IntKind.u64.wrap (Int.tdiv t149 t151)) > 1000000000 then (partitaref01_Of.j0 k a0 a1 (IntKind.u64.wrap (Int.tdiv t149 t151)) (IntKind.u64.wrap (Int.tdiv t150 t151)) true) else (partitaref01_Of.j0 k a0 a1 (IntKind.u64.wrap (Int.tdiv t149 t151)) (IntKind.u64.wrap (Int.tdiv t150 t151)) (decide ((IntKind.u64.wrap (Int.tdiv t150 t151)) > 1000000000))))))))) = some (r1, r2, r3) := h
 clear h
 by_cases c3 : a1 = 0
 · rw [if_pos c3] at H
   have c3b0 : (a1 == 0) = true := beq_iff_eq.mpr c3
   have c3b1 : (a1 != 0) = false := bne_eq_false_iff_eq.mpr c3
   clear c3
   simp only [Option.some.injEq, Prod.mk.injEq] at H
   obtain ⟨rfl, rfl, rfl⟩ := H
   go_enter Try.func27, Try.ntmps27
   go_wp2_with (first | ((with_reducible refine gate_dst (N := 4) rfl ?_); refine box_event ?hg (N := 4) ?hd (cs := #[.int .i64 0, .int .i64 0]) (t := 26) ?hr ?_; (case hd => rfl); (case hg => rfl); (case hr => first | (go_simp; done) | (go_simp; rfl)); intro gb148 hg w4 hbox hb; have n0_ := Aside0.mk (below_step (by repeat (first | (with_reducible first | exact HB.out | apply below_alloc | apply pw_below_drewN | apply below_drew1) | exact HB.out)) hb); have n1_ := Aside0.mk (hbox); have n2_ := Aside0.mk ((by rw [hg]; exact (below_size (by repeat (first | (with_reducible first | exact HB.out | apply below_alloc | apply pw_below_drewN | apply below_drew1) | exact HB.out))) : w.heap.size ≤ gb148)); have n3_ := Aside0.mk ((by rw [hg]; exact (below_size (by repeat (first | (with_reducible first | exact HB.out | apply below_alloc | apply pw_below_drewN | apply below_drew1) | exact HB.out))) : w.heap.size ≤ gb148)); clear HB; have HB := n0_; have BK148 := n1_; have GW148 := n2_; have GE148 := n3_; clear n0_ n1_ n2_ n3_; clear hb hbox hg; have hcz5_0 : w4.cell? ⟨gb148, 0, none⟩ = some (.int .i64 0) := (blk_cell BK148.out 0).trans rfl; have hcz5_1 : w4.cell? ⟨gb148, 1, none⟩ = some (.int .i64 0) := (blk_cell BK148.out 1).trans rfl; have hfz5_0 := blk_frozen BK148.out 0; have hfz5_1 := blk_frozen BK148.out 1))
   refine bodyPost_ret (results_ct rfl _ _ gb148 26 #[.int .i64 0, .int .i64 0] (0, 0) _ rfl (by (with_reducible repeat (first | refine blk_drewN ?_ _ | refine blk_drew ?_ | refine blk_alloc ?_ _)); refine blk_put (cs := #[.int .i64 0, .int .i64 0]) ?_ 1 _ rfl; (with_reducible repeat (first | refine blk_drewN ?_ _ | refine blk_drew ?_ | refine blk_alloc ?_ _)); refine blk_put (cs := #[.int .i64 0, .int .i64 0]) ?_ 0 _ rfl; (with_reducible repeat (first | refine blk_drewN ?_ _ | refine blk_drew ?_ | refine blk_alloc ?_ _)); exact BK148.out) Try.underlying26 rfl (by kernel_rfl)) rfl ?_
   exact ⟨by first | rfl | (simp [errW_none, errW_some] <;> rfl) | (simp [*, errW_none, errW_some] <;> rfl), by repeat (first | (with_reducible first | exact HB.out | apply below_alloc | apply pw_below_drewN | apply below_drew1 | refine below_set ?_ GE148.out) | exact HB.out)⟩
 · rw [if_neg c3] at H
   have c3b0 : (a1 == 0) = false := beq_eq_false_iff_ne.mpr c3
   have c3b1 : (a1 != 0) = true := bne_iff_ne.mpr c3
   replace H := Option.bind_eq_some_iff.mp H
   obtain ⟨t149, A60, H⟩ := H
   replace H : ((partitaref01_size.f a1).bind fun t150 => ((partitaref01_divisor.f t149 t150).bind fun t151 => (if t151 = 0 then (none) else (if (IntKind.u64.wrap (Int.tdiv t149 t151)) > 1000000000 then (partitaref01_Of.j0 k a0 a1 (IntKind.u64.wrap (Int.tdiv t149 t151)) (IntKind.u64.wrap (Int.tdiv t150 t151)) true) else (partitaref01_Of.j0 k a0 a1 (IntKind.u64.wrap (Int.tdiv t149 t151)) (IntKind.u64.wrap (Int.tdiv t150 t151)) (decide ((IntKind.u64.wrap (Int.tdiv t150 t151)) > 1000000000))))))) = some (r1, r2, r3) := H
   have A6 := Aside0.mk A60
   clear A60
   replace H := Option.bind_eq_some_iff.mp H
   obtain ⟨t150, A70, H⟩ := H
   replace H : ((partitaref01_divisor.f t149 t150).bind fun t151 => (if t151 = 0 then (none) else (if (IntKind.u64.wrap (Int.tdiv t149 t151)) > 1000000000 then (partitaref01_Of.j0 k a0 a1 (IntKind.u64.wrap (Int.tdiv t149 t151)) (IntKind.u64.wrap (Int.tdiv t150 t151)) true) else (partitaref01_Of.j0 k a0 a1 (IntKind.u64.wrap (Int.tdiv t149 t151)) (IntKind.u64.wrap (Int.tdiv t150 t151)) (decide ((IntKind.u64.wrap (Int.tdiv t150 t151)) > 1000000000)))))) = some (r1, r2, r3) := H
   have A7 := Aside0.mk A70
   clear A70
   replace H := Option.bind_eq_some_iff.mp H
   obtain ⟨t151, A80, H⟩ := H
   replace H : (if t151 = 0 then (none) else (if (IntKind.u64.wrap (Int.tdiv t149 t151)) > 1000000000 then (partitaref01_Of.j0 k a0 a1 (IntKind.u64.wrap (Int.tdiv t149 t151)) (IntKind.u64.wrap (Int.tdiv t150 t151)) true) else (partitaref01_Of.j0 k a0 a1 (IntKind.u64.wrap (Int.tdiv t149 t151)) (IntKind.u64.wrap (Int.tdiv t150 t151)) (decide ((IntKind.u64.wrap (Int.tdiv t150 t151)) > 1000000000))))) = some (r1, r2, r3) := H
   have A8 := Aside0.mk A80
   clear A80
   by_cases c9 : t151 = 0
   · rw [if_pos c9] at H
     exact absurd H (by simp)
   · rw [if_neg c9] at H
     have c9b0 : (t151 == 0) = false := beq_eq_false_iff_ne.mpr c9
     have c9b1 : (t151 != 0) = true := bne_iff_ne.mpr c9
     have HC10 := Aside0.mk H
     clear H
     go_enter Try.func27, Try.ntmps27
     go_upto_region 8 with (first | ((with_reducible refine gate_dst (N := 4) rfl ?_); refine box_event ?hg (N := 4) ?hd (cs := #[.int .i64 0, .int .i64 0]) (t := 26) ?hr ?_; (case hd => rfl); (case hg => rfl); (case hr => first | (go_simp; done) | (go_simp; rfl)); intro gb148 hg w11 hbox hb; have n0_ := Aside0.mk (below_step (by repeat (first | (with_reducible first | exact HB.out | apply below_alloc | apply pw_below_drewN | apply below_drew1) | exact HB.out)) hb); have n1_ := Aside0.mk (hbox); have n2_ := Aside0.mk ((by rw [hg]; exact (below_size (by repeat (first | (with_reducible first | exact HB.out | apply below_alloc | apply pw_below_drewN | apply below_drew1) | exact HB.out))) : w.heap.size ≤ gb148)); have n3_ := Aside0.mk ((by rw [hg]; exact (below_size (by repeat (first | (with_reducible first | exact HB.out | apply below_alloc | apply pw_below_drewN | apply below_drew1) | exact HB.out))) : w.heap.size ≤ gb148)); clear HB; have HB := n0_; have BK148 := n1_; have GW148 := n2_; have GE148 := n3_; clear n0_ n1_ n2_ n3_; clear hb hbox hg) | ((with_reducible refine gate_callee (f := 46) rfl ?_); refine goesL_ (some 13) rfl rfl Try.func46 (by kernel_rfl) rfl #[.int .i64 a0] rfl (by (try simp only [List.map_toArray, List.map_cons, List.map_nil]); first | done | rfl | (simp only [List.length_drop, List.length_take]; rfl)) ?_; (with_reducible refine (partitaref01_size.calls a0 t149 _ A6.out).mono ?_); rintro e w' ⟨rfl, ⟨nd, rfl⟩⟩; refine ⟨_, rfl, ?_⟩) | ((with_reducible refine gate_callee (f := 46) rfl ?_); refine goesL_ (some 15) rfl rfl Try.func46 (by kernel_rfl) rfl #[.int .i64 a1] rfl (by (try simp only [List.map_toArray, List.map_cons, List.map_nil]); first | done | rfl | (simp only [List.length_drop, List.length_take]; rfl)) ?_; (with_reducible refine (partitaref01_size.calls a1 t150 _ A7.out).mono ?_); rintro e w' ⟨rfl, ⟨nd, rfl⟩⟩; refine ⟨_, rfl, ?_⟩) | ((with_reducible refine gate_callee (f := 47) rfl ?_); refine goesL_ (some 18) rfl rfl Try.func47 (by kernel_rfl) rfl #[.int .u64 t149, .int .u64 t150] rfl (by (try simp only [List.map_toArray, List.map_cons, List.map_nil]); first | done | rfl | (simp only [List.length_drop, List.length_take]; rfl)) ?_; (with_reducible refine (partitaref01_divisor.calls t149 t150 t151 _ A8.out).mono ?_); rintro e w' ⟨rfl, ⟨nd, rfl⟩⟩; refine ⟨_, rfl, ?_⟩))
     (try simp only [Act.put, qa_, qz_, qs_])
     go_cut [30] (fun v30 wc => ∃ (kq : Nat) (x30_9 : Bool), v30 = .bool x30_9 ∧ Aside0 (partitaref01_Of.j0 kq a0 a1 (IntKind.u64.wrap (Int.tdiv t149 t151)) (IntKind.u64.wrap (Int.tdiv t150 t151)) x30_9 = some (r1, r2, r3)) ∧ Aside0 (kq ≤ k) ∧ Aside0 (wc.heap[gb148]? = some (.cells #[.int .i64 0, .int .i64 0] 26 (0, 0))) ∧ Aside0 (Below w.heap.size w wc))
     case first =>
      have H := HC10.out
      clear HC10
      by_cases c12 : (IntKind.u64.wrap (Int.tdiv t149 t151)) > 1000000000
      · rw [if_pos c12] at H
        have c12b0 : decide (1000000000 < (IntKind.u64.wrap (Int.tdiv t149 t151))) = true := decide_eq_true c12
        clear c12
        (first | rw [c12b0] | (simp only [i64_w, i32_w]; rw [c12b0]) | skip)
        have H' := Aside0.mk H
        clear H
        go_wp2
        go_meet
        case rel => exact ⟨_, (true), (by first | rfl | (simp; done) | (simp [*]; done) | (simp [wrap64]; done)), H', ⟨by first | omega | exact Nat.le_refl _⟩, ⟨by (with_reducible repeat (first | refine blk_drewN ?_ _ | refine blk_drew ?_ | refine blk_alloc ?_ _)); exact BK148.out⟩, ⟨by repeat (first | (with_reducible first | exact HB.out | apply below_alloc | apply pw_below_drewN | apply below_drew1 | refine below_set ?_ GE148.out) | exact HB.out)⟩⟩
      · rw [if_neg c12] at H
        have c12b0 : decide (1000000000 < (IntKind.u64.wrap (Int.tdiv t149 t151))) = false := decide_eq_false c12
        clear c12
        (first | rw [c12b0] | (simp only [i64_w, i32_w]; rw [c12b0]) | skip)
        have H' := Aside0.mk H
        clear H
        go_wp2
        go_meet
        case rel => exact ⟨_, (decide ((IntKind.u64.wrap (Int.tdiv t150 t151)) > 1000000000)), (by first | rfl | (simp; done) | (simp [*]; done) | (simp [wrap64]; done)), H', ⟨by first | omega | exact Nat.le_refl _⟩, ⟨by (with_reducible repeat (first | refine blk_drewN ?_ _ | refine blk_drew ?_ | refine blk_alloc ?_ _)); exact BK148.out⟩, ⟨by repeat (first | (with_reducible first | exact HB.out | apply below_alloc | apply pw_below_drewN | apply below_drew1 | refine below_set ?_ GE148.out) | exact HB.out)⟩⟩
     case rest =>
      clear HC10
      try clear c1
      try clear c2
      try clear p2
      try clear c3
      try clear c3b0
      try clear c3b1
      try clear c4
      try clear c9
      try clear c9b0
      try clear c9b1
      try clear c12
      try clear c12b0
      try clear hcz5_0
      try clear hcz5_1
      try clear hfz5_0
      try clear hfz5_1
      obtain ⟨kq, x30_9, rfl, HA, HJ9, BK148, HB⟩ := hcut
      cases kq with
      | zero => exact absurd HA.out (by simp [partitaref01_Of.j0])
      | succ kj9 =>
       have H := HA.out
       clear HA
       simp only [partitaref01_Of.j0] at H
       by_cases c13 : x30_9 = true
       · subst c13
         have H1 : (some (0, 0, 10)) = some (r1, r2, r3) := by rw [if_pos rfl] at H; exact H
         clear H
         have H := H1
         clear H1
         simp only [Option.some.injEq, Prod.mk.injEq] at H
         obtain ⟨rfl, rfl, rfl⟩ := H
         have hcz14_0 : wc.cell? ⟨gb148, 0, none⟩ = some (.int .i64 0) := (blk_cell BK148.out 0).trans rfl
         have hcz14_1 : wc.cell? ⟨gb148, 1, none⟩ = some (.int .i64 0) := (blk_cell BK148.out 1).trans rfl
         have hfz14_0 := blk_frozen BK148.out 0
         have hfz14_1 := blk_frozen BK148.out 1
         go_wp2
         refine bodyPost_ret (results_ct rfl _ _ gb148 26 #[.int .i64 0, .int .i64 0] (0, 0) _ rfl (by (with_reducible repeat (first | refine blk_drewN ?_ _ | refine blk_drew ?_ | refine blk_alloc ?_ _)); refine blk_put (cs := #[.int .i64 0, .int .i64 0]) ?_ 1 _ rfl; (with_reducible repeat (first | refine blk_drewN ?_ _ | refine blk_drew ?_ | refine blk_alloc ?_ _)); refine blk_put (cs := #[.int .i64 0, .int .i64 0]) ?_ 0 _ rfl; (with_reducible repeat (first | refine blk_drewN ?_ _ | refine blk_drew ?_ | refine blk_alloc ?_ _)); exact BK148.out) Try.underlying26 rfl (by kernel_rfl)) rfl ?_
         exact ⟨by first | rfl | (simp [errW_none, errW_some] <;> rfl) | (simp [*, errW_none, errW_some] <;> rfl), by repeat (first | (with_reducible first | exact HB.out | apply below_alloc | apply pw_below_drewN | apply below_drew1 | refine below_set ?_ GE148.out) | exact HB.out)⟩
       · replace c13 := Bool.eq_false_iff.mpr c13
         subst c13
         have H1 : (if ((decide (a0 < 0)) != (decide (a1 < 0))) = true then (some (wrap64 (-(wrap64 ((IntKind.u64.wrap (Int.tdiv t149 t151))))), wrap64 ((IntKind.u64.wrap (Int.tdiv t150 t151))), 0)) else (some (wrap64 ((IntKind.u64.wrap (Int.tdiv t149 t151))), wrap64 ((IntKind.u64.wrap (Int.tdiv t150 t151))), 0))) = some (r1, r2, r3) := by rw [if_neg (show ¬ (false = true) by decide)] at H; exact H
         clear H
         have H := H1
         clear H1
         by_cases c15 : ((decide (a0 < 0)) != (decide (a1 < 0))) = true
         · rw [if_pos c15] at H
           have c15b0 : ((decide (a0 < 0)) != (decide (a1 < 0))) = true := c15
           (try (have c15b1 : decide ((decide (a0 < 0)) = (decide (a1 < 0))) = false := by simpa using c15))
           (try (have c15b2 : ((decide (a0 < 0)) == (decide (a1 < 0))) = false := by simpa using c15))
           (try (have c15b3 : ¬ ((decide (a0 < 0)) = (decide (a1 < 0))) := by simpa using c15))
           clear c15
           simp only [Option.some.injEq, Prod.mk.injEq] at H
           obtain ⟨rfl, rfl, rfl⟩ := H
           have hcz16_0 : wc.cell? ⟨gb148, 0, none⟩ = some (.int .i64 0) := (blk_cell BK148.out 0).trans rfl
           have hcz16_1 : wc.cell? ⟨gb148, 1, none⟩ = some (.int .i64 0) := (blk_cell BK148.out 1).trans rfl
           have hfz16_0 := blk_frozen BK148.out 0
           have hfz16_1 := blk_frozen BK148.out 1
           go_wp2
           refine bodyPost_ret (results_ct rfl _ _ gb148 26 #[.int .i64 (wrap64 (-(wrap64 ((IntKind.u64.wrap (Int.tdiv t149 t151)))))), .int .i64 (wrap64 ((IntKind.u64.wrap (Int.tdiv t150 t151))))] (0, 0) _ rfl (by (with_reducible repeat (first | refine blk_drewN ?_ _ | refine blk_drew ?_ | refine blk_alloc ?_ _)); refine blk_put (cs := #[.int .i64 (wrap64 (-(wrap64 ((IntKind.u64.wrap (Int.tdiv t149 t151)))))), .int .i64 0]) ?_ 1 _ rfl; (with_reducible repeat (first | refine blk_drewN ?_ _ | refine blk_drew ?_ | refine blk_alloc ?_ _)); refine blk_put (cs := #[.int .i64 0, .int .i64 0]) ?_ 0 _ rfl; (with_reducible repeat (first | refine blk_drewN ?_ _ | refine blk_drew ?_ | refine blk_alloc ?_ _)); exact BK148.out) Try.underlying26 rfl (by kernel_rfl)) rfl ?_
           exact ⟨by first | rfl | (simp [errW_none, errW_some] <;> rfl) | (simp [*, errW_none, errW_some] <;> rfl), by repeat (first | (with_reducible first | exact HB.out | apply below_alloc | apply pw_below_drewN | apply below_drew1 | refine below_set ?_ GE148.out) | exact HB.out)⟩
         · rw [if_neg c15] at H
           have c15b0 : ((decide (a0 < 0)) != (decide (a1 < 0))) = false := by simpa using c15
           (try (have c15b1 : decide ((decide (a0 < 0)) = (decide (a1 < 0))) = true := by simpa using c15))
           (try (have c15b2 : ((decide (a0 < 0)) == (decide (a1 < 0))) = true := by simpa using c15))
           clear c15
           simp only [Option.some.injEq, Prod.mk.injEq] at H
           obtain ⟨rfl, rfl, rfl⟩ := H
           have hcz17_0 : wc.cell? ⟨gb148, 0, none⟩ = some (.int .i64 0) := (blk_cell BK148.out 0).trans rfl
           have hcz17_1 : wc.cell? ⟨gb148, 1, none⟩ = some (.int .i64 0) := (blk_cell BK148.out 1).trans rfl
           have hfz17_0 := blk_frozen BK148.out 0
           have hfz17_1 := blk_frozen BK148.out 1
           go_wp2
           refine bodyPost_ret (results_ct rfl _ _ gb148 26 #[.int .i64 (wrap64 ((IntKind.u64.wrap (Int.tdiv t149 t151)))), .int .i64 (wrap64 ((IntKind.u64.wrap (Int.tdiv t150 t151))))] (0, 0) _ rfl (by (with_reducible repeat (first | refine blk_drewN ?_ _ | refine blk_drew ?_ | refine blk_alloc ?_ _)); refine blk_put (cs := #[.int .i64 (wrap64 ((IntKind.u64.wrap (Int.tdiv t149 t151)))), .int .i64 0]) ?_ 1 _ rfl; (with_reducible repeat (first | refine blk_drewN ?_ _ | refine blk_drew ?_ | refine blk_alloc ?_ _)); refine blk_put (cs := #[.int .i64 0, .int .i64 0]) ?_ 0 _ rfl; (with_reducible repeat (first | refine blk_drewN ?_ _ | refine blk_drew ?_ | refine blk_alloc ?_ _)); exact BK148.out) Try.underlying26 rfl (by kernel_rfl)) rfl ?_
           exact ⟨by first | rfl | (simp [errW_none, errW_some] <;> rfl) | (simp [*, errW_none, errW_some] <;> rfl), by repeat (first | (with_reducible first | exact HB.out | apply below_alloc | apply pw_below_drewN | apply below_drew1 | refine below_set ?_ GE148.out) | exact HB.out)⟩

/-! ### partitaref05_Length: function 13 -/
def partitaref05_Length.f (k : Nat) (a0_0 : Int) (a0_1 : Int) (l0_2 : List Int) : Option (Int × Int × Int) := (partitaref05_Right.f k a0_0 a0_1 l0_2).bind fun t154 => (if t154 = true then ((partitaref01_Of.f k a0_0 a0_1).bind fun bt155 => (some (bt155.1, bt155.2.1, bt155.2.2))) else (some (0, 0, 50)))
theorem partitaref05_Length.mono : ∀ a0 a1 a2 k, LeO (partitaref05_Length.f k a0 a1 a2) (partitaref05_Length.f (k + 1) a0 a1 a2) := by
 intro a0 a1 a2 k
 unfold partitaref05_Length.f
 repeat' first
  | (with_reducible exact partitaref01_Of.mono _ _ _)
  | (with_reducible exact partitaref05_Right.mono _ _ _ _)
  | (with_reducible exact LeO.refl _)
  | (with_reducible exact LeO.none _)
  | (with_reducible refine LeO.ite ?_ ?_)
  | (with_reducible refine LeO.bind ?_ (fun _ => ?_))
  | exact partitaref01_Of.mono _ _ _
  | exact partitaref05_Right.mono _ _ _ _
  | exact LeO.none _
  | refine LeO.ite ?_ ?_
  | refine LeO.bind ?_ (fun _ => ?_)
set_option maxHeartbeats 8000000 in
set_option maxRecDepth 100000 in
theorem partitaref05_Length.calls (k : Nat) (a0_0 : Int) (a0_1 : Int) (A0_2 : Option Addr) (c0_2 : Nat) (l0_2 : List Int) (r1 : Int) (r2 : Int) (r3 : Int) (w : World) (hr0_2 : Kd.C (Kd.int .i64) w A0_2 l0_2.length l0_2) (hc0_2 : l0_2.length ≤ c0_2) (h : partitaref05_Length.f k a0_0 a0_1 l0_2 = some (r1, r2, r3)) :
 Calls Try.prog 13 #[.agg #[.int .i64 a0_0, .int .i64 a0_1, .slice A0_2 l0_2.length c0_2]] w fun e w' => e = .returned (.tuple #[.agg #[.int .i64 r1, .int .i64 r2], .int .i64 r3]) ∧ Below w.heap.size w w' := by
 have hu24 := Try.underlying24
 have hu26 := Try.underlying26
 have HR0_2 := Aside0.mk hr0_2
 have HC0_2 := Aside0.mk hc0_2
 clear hr0_2 hc0_2
 have HB := Aside0.mk (Below.refl w.heap.size w)
 have H : ((partitaref05_Right.f k a0_0 a0_1 l0_2).bind fun t154 => (if t154 = true then ((partitaref01_Of.f k a0_0 a0_1).bind fun bt155 => (some (bt155.1, bt155.2.1, bt155.2.2))) else (some (0, 0, 50)))) = some (r1, r2, r3) := h
 clear h
 replace H := Option.bind_eq_some_iff.mp H
 obtain ⟨t154, A20, H⟩ := H
 replace H : (if t154 = true then ((partitaref01_Of.f k a0_0 a0_1).bind fun bt155 => (some (bt155.1, bt155.2.1, bt155.2.2))) else (some (0, 0, 50))) = some (r1, r2, r3) := H
 have A2 := Aside0.mk A20
 clear A20
 by_cases c3 : t154 = true
 · subst c3
   have H1 : ((partitaref01_Of.f k a0_0 a0_1).bind fun bt155 => (some (bt155.1, bt155.2.1, bt155.2.2))) = some (r1, r2, r3) := by rw [if_pos rfl] at H; exact H
   clear H
   have H := H1
   clear H1
   replace H := Option.bind_eq_some_iff.mp H
   obtain ⟨⟨t155, t156, t157⟩, A40, H⟩ := H
   replace H : (some (t155, t156, t157)) = some (r1, r2, r3) := H
   have A4 := Aside0.mk A40
   clear A40
   simp only [Option.some.injEq, Prod.mk.injEq] at H
   obtain ⟨rfl, rfl, rfl⟩ := H
   go_enter Try.func13, Try.ntmps13
   go_wp2_with (first | ((with_reducible refine gate_dst (N := 1) rfl ?_); refine box_event ?hg (N := 1) ?hd (cs := #[.int .i64 a0_0, .int .i64 a0_1, .slice A0_2 l0_2.length c0_2]) (t := 24) ?hr ?_; (case hd => rfl); (case hg => rfl); (case hr => first | (go_simp; done) | (go_simp; rfl)); intro gb152 hg w5 hbox hb; have n0_ := Aside0.mk (below_step (by repeat (first | (with_reducible first | exact HB.out | apply below_alloc | apply pw_below_drewN | apply below_drew1) | exact HB.out)) hb); have n1_ := Aside0.mk (hbox); have n2_ := Aside0.mk ((by rw [hg]; exact (below_size (by repeat (first | (with_reducible first | exact HB.out | apply below_alloc | apply pw_below_drewN | apply below_drew1) | exact HB.out))) : w.heap.size ≤ gb152)); have n3_ := Aside0.mk ((by rw [hg]; exact (below_size (by repeat (first | (with_reducible first | exact HB.out | apply below_alloc | apply pw_below_drewN | apply below_drew1) | exact HB.out))) : w.heap.size ≤ gb152)); clear HB; have HB := n0_; have BK152 := n1_; have GW152 := n2_; have GE152 := n3_; clear n0_ n1_ n2_ n3_; clear hb hbox hg) | ((with_reducible refine gate_dst (N := 2) rfl ?_); refine box_event ?hg (N := 2) ?hd (cs := #[.int .i64 0, .int .i64 0]) (t := 26) ?hr ?_; (case hd => rfl); (case hg => rfl); (case hr => first | (go_simp; done) | (go_simp; rfl)); intro gb153 hg w6 hbox hb; have n0_ := Aside0.mk (blk_below (qB BK152.out) hb); have n1_ := Aside0.mk (below_step (by repeat (first | (with_reducible first | exact HB.out | apply below_alloc | apply pw_below_drewN | apply below_drew1 | refine below_set ?_ GE152.out) | exact HB.out)) hb); have n2_ := Aside0.mk (hbox); have n3_ := Aside0.mk ((by rw [hg]; exact (below_size (by repeat (first | (with_reducible first | exact HB.out | apply below_alloc | apply pw_below_drewN | apply below_drew1 | refine below_set ?_ GE152.out) | exact HB.out))) : w.heap.size ≤ gb153)); have n4_ := Aside0.mk ((by rw [hg]; exact (below_size (by repeat (first | (with_reducible first | exact HB.out | apply below_alloc | apply pw_below_drewN | apply below_drew1 | refine below_set ?_ GE152.out) | exact HB.out))) : w.heap.size ≤ gb153)); have n5_ := Aside0.mk ((by rw [hg]; exact Nat.ne_of_lt (blk_lt (qB BK152.out)) : gb152 ≠ gb153)); have n6_ := Aside0.mk ((by rw [hg]; exact Nat.ne_of_gt (blk_lt (qB BK152.out)) : gb153 ≠ gb152)); clear BK152; clear HB; have BK152 := n0_; have HB := n1_; have BK153 := n2_; have GW153 := n3_; have GE153 := n4_; have NB152_153 := n5_; have NB153_152 := n6_; clear n0_ n1_ n2_ n3_ n4_ n5_ n6_; clear hb hbox hg; have hnb7 := NB152_153.out; have hnc7 := NB153_152.out; have hcz8_0 : w6.cell? ⟨gb152, 0, none⟩ = some (.int .i64 a0_0) := (blk_cell BK152.out 0).trans rfl; have hcz8_1 : w6.cell? ⟨gb152, 1, none⟩ = some (.int .i64 a0_1) := (blk_cell BK152.out 1).trans rfl; have hcz8_2 : w6.cell? ⟨gb152, 2, none⟩ = some (.slice A0_2 l0_2.length c0_2) := (blk_cell BK152.out 2).trans rfl; have hfz8_0 := blk_frozen BK152.out 0; have hfz8_1 := blk_frozen BK152.out 1; have hfz8_2 := blk_frozen BK152.out 2) | ((with_reducible refine gate_callee (f := 17) rfl ?_); refine goesL_ (some 6) rfl rfl Try.func17 (by kernel_rfl) rfl #[.agg #[.int .i64 a0_0, .int .i64 a0_1, .slice A0_2 l0_2.length c0_2]] rfl (by (try simp only [List.map_toArray, List.map_cons, List.map_nil]); first | done | rfl | (simp only [List.length_drop, List.length_take]; rfl)) ?_; (with_reducible refine (partitaref05_Right.calls k a0_0 a0_1 _ _ l0_2 true _ ?side1 ?side2 A2.out).mono ?_); (case side1 => repeat (first | exact (Kd.C_below HR0_2.out HB.out) | (with_reducible refine Kd.C_alloc ?_ _) | (with_reducible refine Kd.C_drewN ?_ _) | (with_reducible refine Kd.C_drew ?_))); (case side2 => exact HC0_2.out); rintro e w9 ⟨rfl, hb⟩; refine ⟨_, rfl, ?_⟩; have n0_ := Aside0.mk (blk_below (qB BK152.out) hb); have n1_ := Aside0.mk (blk_below (qB BK153.out) hb); have n2_ := Aside0.mk (below_step (by repeat (first | (with_reducible first | exact HB.out | apply below_alloc | apply pw_below_drewN | apply below_drew1 | refine below_set ?_ (Aside0.out (by assumption))) | exact HB.out)) hb); clear BK152; clear BK153; clear HB; have BK152 := n0_; have BK153 := n1_; have HB := n2_; clear n0_ n1_ n2_; (try clear hb); (try clear hb2); (try clear hk); (try clear hi); have hcz10_0 : w9.cell? ⟨gb152, 0, none⟩ = some (.int .i64 a0_0) := (blk_cell BK152.out 0).trans rfl; have hcz10_1 : w9.cell? ⟨gb152, 1, none⟩ = some (.int .i64 a0_1) := (blk_cell BK152.out 1).trans rfl; have hcz10_2 : w9.cell? ⟨gb152, 2, none⟩ = some (.slice A0_2 l0_2.length c0_2) := (blk_cell BK152.out 2).trans rfl; have hfz10_0 := blk_frozen BK152.out 0; have hfz10_1 := blk_frozen BK152.out 1; have hfz10_2 := blk_frozen BK152.out 2) | ((with_reducible refine gate_callee (f := 27) rfl ?_); refine goesL_ (some 14) rfl rfl Try.func27 (by kernel_rfl) rfl #[.int .i64 a0_0, .int .i64 a0_1] rfl (by (try simp only [List.map_toArray, List.map_cons, List.map_nil]); first | done | rfl | (simp only [List.length_drop, List.length_take]; rfl)) ?_; (with_reducible refine (partitaref01_Of.calls k a0_0 a0_1 t155 t156 t157 _ A4.out).mono ?_); rintro e w11 ⟨rfl, hb⟩; refine ⟨_, rfl, ?_⟩; have n0_ := Aside0.mk (blk_below (qB BK152.out) hb); have n1_ := Aside0.mk (blk_below (qB BK153.out) hb); have n2_ := Aside0.mk (below_step (by repeat (first | (with_reducible first | exact HB.out | apply below_alloc | apply pw_below_drewN | apply below_drew1 | refine below_set ?_ (Aside0.out (by assumption))) | exact HB.out)) hb); clear BK152; clear BK153; clear HB; have BK152 := n0_; have BK153 := n1_; have HB := n2_; clear n0_ n1_ n2_; (try clear hb); (try clear hb2); (try clear hk); (try clear hi); have hcz12_0 : w11.cell? ⟨gb153, 0, none⟩ = some (.int .i64 0) := (blk_cell BK153.out 0).trans rfl; have hcz12_1 : w11.cell? ⟨gb153, 1, none⟩ = some (.int .i64 0) := (blk_cell BK153.out 1).trans rfl; have hfz12_0 := blk_frozen BK153.out 0; have hfz12_1 := blk_frozen BK153.out 1))
   refine bodyPost_ret (results_ct rfl _ _ gb153 26 #[.int .i64 t155, .int .i64 t156] (0, 0) _ rfl (by (with_reducible repeat (first | refine blk_drewN ?_ _ | refine blk_drew ?_ | refine blk_alloc ?_ _)); refine blk_put (cs := #[.int .i64 t155, .int .i64 0]) ?_ 1 _ rfl; (with_reducible repeat (first | refine blk_drewN ?_ _ | refine blk_drew ?_ | refine blk_alloc ?_ _)); refine blk_put (cs := #[.int .i64 0, .int .i64 0]) ?_ 0 _ rfl; (with_reducible repeat (first | refine blk_drewN ?_ _ | refine blk_drew ?_ | refine blk_alloc ?_ _)); exact BK153.out) Try.underlying26 rfl (by kernel_rfl)) rfl ?_
   exact ⟨by first | rfl | (simp [errW_none, errW_some] <;> rfl) | (simp [*, errW_none, errW_some] <;> rfl), by repeat (first | (with_reducible first | exact HB.out | apply below_alloc | apply pw_below_drewN | apply below_drew1 | refine below_set ?_ (Aside0.out (by assumption))) | exact HB.out)⟩
 · replace c3 := Bool.eq_false_iff.mpr c3
   subst c3
   have H1 : (some (0, 0, 50)) = some (r1, r2, r3) := by rw [if_neg (show ¬ (false = true) by decide)] at H; exact H
   clear H
   have H := H1
   clear H1
   simp only [Option.some.injEq, Prod.mk.injEq] at H
   obtain ⟨rfl, rfl, rfl⟩ := H
   go_enter Try.func13, Try.ntmps13
   go_wp2_with (first | ((with_reducible refine gate_dst (N := 1) rfl ?_); refine box_event ?hg (N := 1) ?hd (cs := #[.int .i64 a0_0, .int .i64 a0_1, .slice A0_2 l0_2.length c0_2]) (t := 24) ?hr ?_; (case hd => rfl); (case hg => rfl); (case hr => first | (go_simp; done) | (go_simp; rfl)); intro gb152 hg w13 hbox hb; have n0_ := Aside0.mk (below_step (by repeat (first | (with_reducible first | exact HB.out | apply below_alloc | apply pw_below_drewN | apply below_drew1) | exact HB.out)) hb); have n1_ := Aside0.mk (hbox); have n2_ := Aside0.mk ((by rw [hg]; exact (below_size (by repeat (first | (with_reducible first | exact HB.out | apply below_alloc | apply pw_below_drewN | apply below_drew1) | exact HB.out))) : w.heap.size ≤ gb152)); have n3_ := Aside0.mk ((by rw [hg]; exact (below_size (by repeat (first | (with_reducible first | exact HB.out | apply below_alloc | apply pw_below_drewN | apply below_drew1) | exact HB.out))) : w.heap.size ≤ gb152)); clear HB; have HB := n0_; have BK152 := n1_; have GW152 := n2_; have GE152 := n3_; clear n0_ n1_ n2_ n3_; clear hb hbox hg) | ((with_reducible refine gate_dst (N := 2) rfl ?_); refine box_event ?hg (N := 2) ?hd (cs := #[.int .i64 0, .int .i64 0]) (t := 26) ?hr ?_; (case hd => rfl); (case hg => rfl); (case hr => first | (go_simp; done) | (go_simp; rfl)); intro gb153 hg w14 hbox hb; have n0_ := Aside0.mk (blk_below (qB BK152.out) hb); have n1_ := Aside0.mk (below_step (by repeat (first | (with_reducible first | exact HB.out | apply below_alloc | apply pw_below_drewN | apply below_drew1 | refine below_set ?_ GE152.out) | exact HB.out)) hb); have n2_ := Aside0.mk (hbox); have n3_ := Aside0.mk ((by rw [hg]; exact (below_size (by repeat (first | (with_reducible first | exact HB.out | apply below_alloc | apply pw_below_drewN | apply below_drew1 | refine below_set ?_ GE152.out) | exact HB.out))) : w.heap.size ≤ gb153)); have n4_ := Aside0.mk ((by rw [hg]; exact (below_size (by repeat (first | (with_reducible first | exact HB.out | apply below_alloc | apply pw_below_drewN | apply below_drew1 | refine below_set ?_ GE152.out) | exact HB.out))) : w.heap.size ≤ gb153)); have n5_ := Aside0.mk ((by rw [hg]; exact Nat.ne_of_lt (blk_lt (qB BK152.out)) : gb152 ≠ gb153)); have n6_ := Aside0.mk ((by rw [hg]; exact Nat.ne_of_gt (blk_lt (qB BK152.out)) : gb153 ≠ gb152)); clear BK152; clear HB; have BK152 := n0_; have HB := n1_; have BK153 := n2_; have GW153 := n3_; have GE153 := n4_; have NB152_153 := n5_; have NB153_152 := n6_; clear n0_ n1_ n2_ n3_ n4_ n5_ n6_; clear hb hbox hg; have hnb15 := NB152_153.out; have hnc15 := NB153_152.out; have hcz16_0 : w14.cell? ⟨gb152, 0, none⟩ = some (.int .i64 a0_0) := (blk_cell BK152.out 0).trans rfl; have hcz16_1 : w14.cell? ⟨gb152, 1, none⟩ = some (.int .i64 a0_1) := (blk_cell BK152.out 1).trans rfl; have hcz16_2 : w14.cell? ⟨gb152, 2, none⟩ = some (.slice A0_2 l0_2.length c0_2) := (blk_cell BK152.out 2).trans rfl; have hfz16_0 := blk_frozen BK152.out 0; have hfz16_1 := blk_frozen BK152.out 1; have hfz16_2 := blk_frozen BK152.out 2) | ((with_reducible refine gate_callee (f := 17) rfl ?_); refine goesL_ (some 6) rfl rfl Try.func17 (by kernel_rfl) rfl #[.agg #[.int .i64 a0_0, .int .i64 a0_1, .slice A0_2 l0_2.length c0_2]] rfl (by (try simp only [List.map_toArray, List.map_cons, List.map_nil]); first | done | rfl | (simp only [List.length_drop, List.length_take]; rfl)) ?_; (with_reducible refine (partitaref05_Right.calls k a0_0 a0_1 _ _ l0_2 false _ ?side1 ?side2 A2.out).mono ?_); (case side1 => repeat (first | exact (Kd.C_below HR0_2.out HB.out) | (with_reducible refine Kd.C_alloc ?_ _) | (with_reducible refine Kd.C_drewN ?_ _) | (with_reducible refine Kd.C_drew ?_))); (case side2 => exact HC0_2.out); rintro e w17 ⟨rfl, hb⟩; refine ⟨_, rfl, ?_⟩; have n0_ := Aside0.mk (blk_below (qB BK152.out) hb); have n1_ := Aside0.mk (blk_below (qB BK153.out) hb); have n2_ := Aside0.mk (below_step (by repeat (first | (with_reducible first | exact HB.out | apply below_alloc | apply pw_below_drewN | apply below_drew1 | refine below_set ?_ (Aside0.out (by assumption))) | exact HB.out)) hb); clear BK152; clear BK153; clear HB; have BK152 := n0_; have BK153 := n1_; have HB := n2_; clear n0_ n1_ n2_; (try clear hb); (try clear hb2); (try clear hk); (try clear hi); have hcz18_0 : w17.cell? ⟨gb153, 0, none⟩ = some (.int .i64 0) := (blk_cell BK153.out 0).trans rfl; have hcz18_1 : w17.cell? ⟨gb153, 1, none⟩ = some (.int .i64 0) := (blk_cell BK153.out 1).trans rfl; have hfz18_0 := blk_frozen BK153.out 0; have hfz18_1 := blk_frozen BK153.out 1))
   refine bodyPost_ret (results_ct rfl _ _ gb153 26 #[.int .i64 0, .int .i64 0] (0, 0) _ rfl (by (with_reducible repeat (first | refine blk_drewN ?_ _ | refine blk_drew ?_ | refine blk_alloc ?_ _)); refine blk_put (cs := #[.int .i64 0, .int .i64 0]) ?_ 1 _ rfl; (with_reducible repeat (first | refine blk_drewN ?_ _ | refine blk_drew ?_ | refine blk_alloc ?_ _)); refine blk_put (cs := #[.int .i64 0, .int .i64 0]) ?_ 0 _ rfl; (with_reducible repeat (first | refine blk_drewN ?_ _ | refine blk_drew ?_ | refine blk_alloc ?_ _)); exact BK153.out) Try.underlying26 rfl (by kernel_rfl)) rfl ?_
   exact ⟨by first | rfl | (simp [errW_none, errW_some] <;> rfl) | (simp [*, errW_none, errW_some] <;> rfl), by repeat (first | (with_reducible first | exact HB.out | apply below_alloc | apply pw_below_drewN | apply below_drew1 | refine below_set ?_ (Aside0.out (by assumption))) | exact HB.out)⟩

/-! ### partitaref05_Groups: function 34 -/
theorem grow_keep {w wr w1 : World} {tmp : Obj} {v : Value} {e : TypeId} {s n : Nat} {xs : List Value} (hO : wr.ownsRow (w.heap.size + 1) e s v n xs) (hB : Below w.heap.size w wr) (hs : w.heap.size + 1 ≤ wr.heap.size) (hg : (wr.alloc tmp).grownBy w1 v.ownBlock) :
    Below w.heap.size w w1 ∧ ∀ i o, i < w.heap.size + 1 → wr.heap[i]? = some o → w1.heap[i]? = some o := by
  have hk : ∀ i, i < w.heap.size + 1 → some i ≠ v.ownBlock := by
    intro i hi
    rcases hO.2 with ⟨rfl, _⟩ | ⟨g, cap, cur, rfl, hb, _, _⟩
    · simp [Value.ownBlock]
    · simp [Value.ownBlock]; omega
  refine ⟨(below_alloc hB tmp).grown hg (by simp; omega) (fun j ej => ?_), fun i o hi ho => (hg.block i (by simp; omega) (hk i hi)).trans (blk_alloc ho tmp)⟩
  refine Nat.le_of_not_lt fun h => hk j (by omega) ej.symm
theorem C_own {W : World} {b n : Nat} {v : Value} {z : Int} (hn : n ≤ 1000) (h : W.ownsRow b 3 1 v n (List.replicate n (.int .i64 z))) : ∃ A c, v = .slice A n c ∧ n ≤ c ∧ Kd.C (Kd.int .i64) W A (List.replicate n z).length (List.replicate n z) := by
  rcases h.2 with ⟨rfl, rfl⟩ | ⟨g, cap, cur, rfl, _, h3, h4, _, h6, h7⟩
  · exact ⟨none, 0, rfl, Nat.le_refl _, Kd.C_nil _ _⟩
  · refine ⟨some ⟨g, 0, none⟩, cap, rfl, h4, ?_⟩
    refine Kd.C_of_reads (enc := Value.int .i64) (d := (0 : Int)) (h1 := fun _ => rfl) ⟨rfl, by simp; omega, fun _ => ⟨_, rfl, fun j hj => ?_⟩⟩
    rw [List.length_replicate] at hj
    rw [Addr.add_mid, Nat.zero_add]
    refine (blk_cell h3 j).trans ?_
    have e : (cur.toList.take (n * 1))[j]? = (List.replicate n (Value.int .i64 z))[j]? := by rw [h7]
    rw [List.getElem?_take, if_pos (by omega), List.getElem?_replicate, if_pos hj] at e
    rw [← Array.getElem?_toList, e]
    simp [List.getD, hj]
set_option maxHeartbeats 1000000 in
set_option maxRecDepth 100000 in
theorem refGroups_ok (n d : Int) (A : Option Addr) (c : Nat) (l : List Int) (w : World) (hn : 1 ≤ n) (hn2 : n ≤ 32) (hr : Kd.C (Kd.int .i64) w A l.length l) (hc : l.length ≤ c) :
    Calls Try.prog 34 #[.agg #[.int .i64 n, .int .i64 d, .slice A l.length c]] w fun e W' => ∃ A c, e = .returned (.slice A (grp n d l).length c) ∧ (grp n d l).length ≤ c ∧ Kd.C (Kd.int .i64) W' A (grp n d l).length (grp n d l) ∧ Below w.heap.size w W' := by
  have hu22 := Try.underlying22
  have hu24 := Try.underlying24
  have hB1 := below_alloc (Below.refl w.heap.size w) (.cells #[.int .i64 n, .int .i64 d, .slice A l.length c] 24)
  by_cases h0 : 0 < l.length
  · go_enter Try.func34, Try.ntmps34
    have hd : decide (0 < (l.length : Int)) = true := by simpa using h0
    have hG : grp n d l = l := by unfold grp; rw [if_pos h0]
    go_wp2
    go_ret
    rw [hG]
    exact ⟨A, c, rfl, hc, Kd.C_below hr hB1, hB1⟩
  · have hl : l = [] := List.eq_nil_of_length_eq_zero (by omega)
    subst hl
    obtain ⟨N, rfl⟩ : ∃ N : Nat, n = N := ⟨n.toNat, by omega⟩
    by_cases h3 : 3 < (N : Int) ∧ (N : Int) % 3 = 0 ∧ 8 ≤ d
    · have hG : grp N d [] = List.replicate (N / 3) 3 := by unfold grp; rw [if_neg (by simp), if_pos h3]; congr 1
      obtain ⟨e1, e2, e3⟩ := h3
      have BM := blk_new w (.cells #[.int .i64 N, .int .i64 d, .slice A 0 c] 24)
      go_enter Try.func34, Try.ntmps34
      go_wp2
      obtain ⟨K, hK, hK2⟩ : ∃ K : Nat, N ≤ 3 * K ∧ 3 * K ≤ N := ⟨N / 3, by omega, by omega⟩
      have hK3 : N / 3 = K := by omega
      rw [hK3] at hG
      clear hK3 e1 e2 e3
      go_loopw [4, 5] (fun v i wr => ∃ k : Nat, k ≤ K ∧ i = .int .i64 (3 * (k : Int)) ∧ Aside0 (wr.ownsRow (w.heap.size + 1) 3 1 v k (List.replicate k (Value.int .i64 3))) ∧ Aside0 (wr.heap[w.heap.size]? = some (.cells #[.int .i64 N, .int .i64 d, .slice A 0 c] 24 (0, 0))) ∧ Aside0 (Below w.heap.size w wr)) (fun _ i _ => N - (intOf i).toNat)
      case atStart => exact ⟨0, Nat.zero_le _, rfl, Aside0.mk (own_nil _ _ _ _), Aside0.mk BM, Aside0.mk hB1⟩
      case round =>
        obtain ⟨k, hk, rfl, hO, hM, hB⟩ := hrel
        have m0 : wr.cell? ⟨w.heap.size, 0, none⟩ = some (.int .i64 N) := (blk_cell hM.out 0).trans rfl
        have hsz := hB.out.size
        have hsm := blk_lt hM.out
        by_cases hlt : k < K
        · have hd : decide (3 * (k : Int) < (N : Int)) = true := by rw [decide_eq_true_eq]; omega
          obtain ⟨i0, hi, hz0, hz1, hz2⟩ := info_parts info3
          go_wp2_with (first
            | (at_builtin; refine wpList_append_own _ rfl _ _ 22 rfl (w.heap.size + 1) 3 i0 _ 1 8 Try.underlying22 hi hz0 hz1 hz2 rfl (by decide) _ _ _ rfl (hO.out.alloc _) ⟨wr.heap.size, 0, none⟩ 1 1 [.int .i64 3] rfl rfl (cell_one_new _ _ _) (by simp [Value.oneCell']) (by simp [maxLen]; omega) (by omega) (by simp; omega) ?_; intro v' w1 hown' hgrow _; have HO := Aside0.mk hown'; have GK := grow_keep hO.out hB.out (by omega) hgrow; have HB := Aside0.mk GK.1; have HM := Aside0.mk (GK.2 _ _ (by omega) hM.out); clear GK hown' hgrow))
          go_roundw
          case rel => exact ⟨k + 1, by omega, by rw [show 3 * ((k + 1 : Nat) : Int) = 3 * (k : Int) + 3 by omega], by rw [List.replicate_succ']; exact HO, HM, HB⟩
          case measure => simp [intOf]; omega
        · obtain rfl : k = K := by omega
          have hd : decide (3 * (k : Int) < (N : Int)) = false := by rw [decide_eq_false_iff_not]; omega
          obtain ⟨A', c', rfl, hc', hC⟩ := C_own (by omega) hO.out
          go_wp2
          go_ret
          rw [hG]
          exact ⟨A', c', by rw [List.length_replicate]; rfl, by rw [List.length_replicate]; exact hc', hC, hB.out⟩
    · have hG : grp N d [] = List.replicate N 1 := by unfold grp; rw [if_neg (by simp), if_neg h3]; congr 1
      have BM := blk_new w (.cells #[.int .i64 N, .int .i64 d, .slice A 0 c] 24)
      have HG := Aside0.mk hG
      clear hG
      have hg3 : Aside0 (¬ (3 < (N : Int) ∧ (N : Int) % 3 = 0 ∧ 8 ≤ d)) := ⟨h3⟩
      clear h3
      go_enter Try.func34, Try.ntmps34
      go_wp2
      · exact absurd ⟨by assumption, by assumption, by assumption⟩ hg3.out
      all_goals
        obtain ⟨K, hK, hK2⟩ : ∃ K : Nat, N ≤ K ∧ K ≤ N := ⟨N, by omega, by omega⟩
        have hKN : N = K := by omega
        replace HG := Aside0.mk (show grp N d [] = List.replicate K 1 by rw [← hKN]; exact HG.out)
        clear hKN
        go_loopw [4, 5] (fun v i wr => ∃ k : Nat, k ≤ K ∧ i = .int .i64 ((k : Int)) ∧ Aside0 (wr.ownsRow (w.heap.size + 1) 3 1 v k (List.replicate k (Value.int .i64 1))) ∧ Aside0 (wr.heap[w.heap.size]? = some (.cells #[.int .i64 N, .int .i64 d, .slice A 0 c] 24 (0, 0))) ∧ Aside0 (Below w.heap.size w wr)) (fun _ i _ => N - (intOf i).toNat)
        case atStart => exact ⟨0, Nat.zero_le _, rfl, Aside0.mk (own_nil _ _ _ _), Aside0.mk BM, Aside0.mk hB1⟩
        case round =>
          obtain ⟨k, hk, rfl, hO, hM, hB⟩ := hrel
          have m0 : wr.cell? ⟨w.heap.size, 0, none⟩ = some (.int .i64 N) := (blk_cell hM.out 0).trans rfl
          have hsz := hB.out.size
          have hsm := blk_lt hM.out
          by_cases hlt : k < K
          · have hd : decide ((k : Int) < (N : Int)) = true := by rw [decide_eq_true_eq]; omega
            obtain ⟨i0, hi, hz0, hz1, hz2⟩ := info_parts info3
            go_wp2_with (first
              | (at_builtin; refine wpList_append_own _ rfl _ _ 22 rfl (w.heap.size + 1) 3 i0 _ 1 8 Try.underlying22 hi hz0 hz1 hz2 rfl (by decide) _ _ _ rfl (hO.out.alloc _) ⟨wr.heap.size, 0, none⟩ 1 1 [.int .i64 1] rfl rfl (cell_one_new _ _ _) (by simp [Value.oneCell']) (by simp [maxLen]; omega) (by omega) (by simp; omega) ?_; intro v' w1 hown' hgrow _; have HO := Aside0.mk hown'; have GK := grow_keep hO.out hB.out (by omega) hgrow; have HB := Aside0.mk GK.1; have HM := Aside0.mk (GK.2 _ _ (by omega) hM.out); clear GK hown' hgrow))
            go_roundw
            case rel => exact ⟨k + 1, by omega, by rw [show ((k + 1 : Nat) : Int) = (k : Int) + 1 by omega], by rw [List.replicate_succ']; exact HO, HM, HB⟩
            case measure => simp [intOf]; omega
          · obtain rfl : k = K := by omega
            have hd : decide ((k : Int) < (N : Int)) = false := by rw [decide_eq_false_iff_not]; omega
            obtain ⟨A', c', rfl, hc', hC⟩ := C_own (by omega) hO.out
            go_wp2
            go_ret
            rw [HG.out]
            exact ⟨A', c', by rw [List.length_replicate]; rfl, by rw [List.length_replicate]; exact hc', hC, hB.out⟩

end Go.Proofs.Ytbncdlnnjhadgaa.Q
