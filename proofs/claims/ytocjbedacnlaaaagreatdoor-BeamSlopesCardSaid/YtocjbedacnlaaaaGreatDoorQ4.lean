-- Written by a program of this session (myprint.py), function by function.
import Derived.Test.YtocjbedacnlaaaaGreatDoorQ0
import Derived.Test.YtocjbedacnlaaaaGreatDoorQ3
import Derived.Test.YtocjbedacnlaaaaGreatDoorHandA
import Derived.Test.YtocjbedacnlaaaaGreatDoorSmallMost
namespace Go.Proofs.YtocjbedacnlaaaaGreatDoor.Q
open Go.RowKit Go.Proofs.YtocjbedacnlaaaaGreatDoorW.PrintWords Go.Proofs.YtocjbedacnlaaaaGreatDoorW.PrintLast Go.Proofs.YtocjbedacnlaaaaGreatDoorW.PrintMore
attribute [local go_sem] max2_int min2_int max_two min_two max_three min_three max_four min_four   -- for this text's walks alone
set_option linter.unusedVariables false
set_option linter.unusedSimpArgs false

/-! ### event_Right_2: function 101 -/
/-- Is a pitch above another one? -/
def gtP (k : Nat) (x y : S43) : Bool := decide (0 < (pitch_Compare.f k x.f0 x.f1 x.f2 y.f0 y.f1 y.f2).getD 0)
def cmpOk (k : Nat) (x y : S43) : Bool := (pitch_Compare.f k x.f0 x.f1 x.f2 y.f0 y.f1 y.f2).isSome
set_option maxHeartbeats 2000000 in
set_option maxRecDepth 100000 in
theorem right2_w (k : Nat) (x y : S43) (r : Int) (w : World) (h : pitch_Compare.f k x.f0 x.f1 x.f2 y.f0 y.f1 y.f2 = some r) (hS : SentsE w) :
    Calls Tryz.prog 101 #[.agg #[.int .i64 x.f0, .int .i64 x.f1, .int .i64 x.f2], .agg #[.int .i64 y.f0, .int .i64 y.f1, .int .i64 y.f2]] w fun e w' => e = .returned (.bool (decide (0 < r))) ∧ Below w.heap.size w w' := by
  have hu43 := Tryz.underlying43
  have HB := Aside0.mk (below_alloc (below_alloc (Below.refl w.heap.size w) (.cells #[.int .i64 x.f0, .int .i64 x.f1, .int .i64 x.f2] 43)) (.cells #[.int .i64 y.f0, .int .i64 y.f1, .int .i64 y.f2] 43))
  have HC := Aside0.mk (fun W SE => pitch_Compare.calls k x.f0 x.f1 x.f2 y.f0 y.f1 y.f2 r W h SE)
  have HS := Aside0.mk hS
  generalize hd : decide (0 < r) = d
  clear h hS
  go_enter Tryz.func101, Tryz.ntmps101
  go_wp2_with (first | (go_at_call 102; ((with_reducible refine (HC.out _ (sents_step HS HB.out)).mono ?_); rintro e w1 ⟨rfl, hb1⟩; have HB1 := Aside0.mk (below_step HB.out hb1))))
  go_ret
  exact ⟨rfl, HB1.out⟩
/-- Does each pitch stand above the one ahead of it? (function 100 at the function value 101) -/
def event_Right_2.f (k : Nat) (l0 : List S43) : Option Bool := if risesF (cmpOk k) l0 = true then some (risesF (gtP k) l0) else none
theorem cmpOk_step {k : Nat} {x y : S43} (h : cmpOk k x y = true) : cmpOk (k + 1) x y = true ∧ gtP (k + 1) x y = gtP k x y := by
  unfold cmpOk gtP at *
  obtain ⟨r, hr⟩ := Option.isSome_iff_exists.1 h
  have := pitch_Compare.mono _ _ _ _ _ _ k r hr
  rw [this, hr]
  exact ⟨rfl, rfl⟩
theorem risesF_congr {α : Type} {p q : α → α → Bool} {l : List α} (h : ∀ k (hk : k + 1 < l.length), p l[k + 1] l[k] = q l[k + 1] l[k]) : risesF p l = risesF q l := by
  rw [Bool.eq_iff_iff, risesF_iff, risesF_iff]
  constructor
  · intro g k hk; rw [← h k hk]; exact g k hk
  · intro g k hk; rw [h k hk]; exact g k hk
theorem event_Right_2.mono : ∀ a0 k, LeO (event_Right_2.f k a0) (event_Right_2.f (k + 1) a0) := by
  intro l k r h
  unfold event_Right_2.f at h ⊢
  by_cases c : risesF (cmpOk k) l = true
  · rw [if_pos c] at h
    rw [risesF_iff] at c
    rw [if_pos (risesF_iff.2 fun j hj => (cmpOk_step (c j hj)).1), ← h]
    rw [risesF_congr fun j hj => (cmpOk_step (c j hj)).2]
  · rw [if_neg c] at h; cases h
theorem event_Right_2.calls (k : Nat) (A0 : Option Addr) (c0 : Nat) (l0 : List S43) (r : Bool) (w : World) (hr0 : Kd.C k43 w A0 l0.length l0) (hc0 : l0.length ≤ c0) (h : event_Right_2.f k l0 = some r) (SENTS : Aside0 (SentsE w) := by exact sents_step (by assumption) (by repeat (first | (with_reducible first | exact (by assumption : Aside0 (Below _ _ _)).out | apply below_alloc | apply pw_below_drewN | apply below_drew1)))) :
 Calls Tryz.prog 100 #[.slice A0 l0.length c0, .func (.func 101) #[] #[]] w fun e w' => e = .returned (.bool r) ∧ Below w.heap.size w w' := by
  unfold event_Right_2.f at h
  by_cases c : risesF (cmpOk k) l0 = true
  · rw [if_pos c] at h
    obtain rfl := Option.some.inj h
    rw [risesF_iff] at c
    refine risesP_calls (gtP k) A0 c0 l0 w hr0 fun j hj W hb => ?_
    obtain ⟨r, hr⟩ := Option.isSome_iff_exists.1 (c j hj)
    have := right2_w k l0[j + 1] l0[j] r W hr (SENTS.out.below hb)
    unfold gtP
    rw [hr]
    exact this
  · rw [if_neg c] at h; cases h

-- NOT PRINTED: function 43 (slices_IndexFunc_int_int)

-- NOT PRINTED: function 23 (slices_ContainsFunc_int_int)

/-! ### value_within: function 112 -/
def value_within.f (a0 : Int) (a1 : Int) (a2 : Int) : Option (Bool) := if a0 ≥ a1 then (some (decide (a0 ≤ a2))) else (some false)
set_option maxHeartbeats 8000000 in
set_option maxRecDepth 100000 in
theorem value_within.calls (a0 : Int) (a1 : Int) (a2 : Int) (r : Bool) (w : World) (h : value_within.f a0 a1 a2 = some r) :
 Calls Tryz.prog 112 #[.int .i64 a0, .int .i64 a1, .int .i64 a2] w fun e w' => e = .returned (.bool r) ∧ Drawn0 w w' := by
 have H : (if a0 ≥ a1 then (some (decide (a0 ≤ a2))) else (some false)) = some r := h
 clear h
 by_cases c4 : a0 ≥ a1
 · rw [if_pos c4] at H
   have c4b0 : decide (a1 ≤ a0) = true := decide_eq_true c4
   clear c4
   obtain rfl := Option.some.inj H
   go_enter Tryz.func112, Tryz.ntmps112
   go_wp2
   go_ret
   exact ⟨by first | rfl | (simp; done) | (simp [*]; done), by repeat (first | exact Drawn0.refl _ | apply Drawn0.step)⟩
 · rw [if_neg c4] at H
   have c4b0 : decide (a1 ≤ a0) = false := decide_eq_false c4
   clear c4
   obtain rfl := Option.some.inj H
   go_enter Tryz.func112, Tryz.ntmps112
   go_wp2
   go_ret
   exact ⟨by first | rfl | (simp; done) | (simp [*]; done), by repeat (first | exact Drawn0.refl _ | apply Drawn0.step)⟩

/-! ### value_Right: function 95 -/
def value_Right.j0 : Nat → Bool → Int → Int → Int → Int → Option (Bool)
 | 0, _, _, _, _, _ => none
 | k + 1, x3, x122000, x122001, x122002, x122003 => (value_within.f x122002 2 15).bind fun t122 => (if t122 = true then ((value_within.f x122003 1 15).bind fun t123 => (if t123 = true then ((value_within.f x122000 0 6).bind fun t124 => (if t124 = true then ((value_within.f x122001 0 2).bind fun t125 => (if t125 = true then (if x3 = true then (some true) else (some (x122002 != x122003))) else (some false))) else (some false))) else ((value_within.f x122000 0 6).bind fun t126 => (if t126 = true then ((value_within.f x122001 0 2).bind fun t127 => (if t127 = true then (if x3 = true then (some true) else (some false)) else (some false))) else (some false))))) else ((value_within.f x122000 0 6).bind fun t128 => (if t128 = true then ((value_within.f x122001 0 2).bind fun t129 => (if t129 = true then (if x3 = true then (some true) else (some false)) else (some false))) else (some false))))
def value_Right.f (k : Nat) (a0_0 : Int) (a0_1 : Int) (a0_2 : Int) (a0_3 : Int) : Option (Bool) := if a0_2 = 0 then (value_Right.j0 k (a0_3 == 0) a0_0 a0_1 a0_2 a0_3) else (value_Right.j0 k false a0_0 a0_1 a0_2 a0_3)
theorem value_Right.mono_l : ∀ k, (∀ y0 y1 y2 y3 y4, LeO (value_Right.j0 k y0 y1 y2 y3 y4) (value_Right.j0 (k + 1) y0 y1 y2 y3 y4))
 | 0 => fun _ _ _ _ _ r h => by simp [value_Right.j0] at h
 | k + 1 => by
  have ih0 := value_Right.mono_l k
  · intro y0 y1 y2 y3 y4
    unfold value_Right.j0
    repeat' first
    | (with_reducible exact ih0 _ _ _ _ _)
    | (with_reducible exact LeO.refl _)
    | (with_reducible exact LeO.none _)
    | (with_reducible refine LeO.ite ?_ ?_)
    | (with_reducible refine LeO.bind ?_ (fun _ => ?_))
    | exact ih0 _ _ _ _ _
    | exact LeO.none _
    | refine LeO.ite ?_ ?_
    | refine LeO.bind ?_ (fun _ => ?_)
theorem value_Right.mono : ∀ a0 a1 a2 a3 k, LeO (value_Right.f k a0 a1 a2 a3) (value_Right.f (k + 1) a0 a1 a2 a3) := by
 intro a0 a1 a2 a3 k
 have ih0 := value_Right.mono_l k
 unfold value_Right.f
 repeat' first
  | (with_reducible exact ih0 _ _ _ _ _)
  | (with_reducible exact LeO.refl _)
  | (with_reducible exact LeO.none _)
  | (with_reducible refine LeO.ite ?_ ?_)
  | (with_reducible refine LeO.bind ?_ (fun _ => ?_))
  | exact ih0 _ _ _ _ _
  | exact LeO.none _
  | refine LeO.ite ?_ ?_
  | refine LeO.bind ?_ (fun _ => ?_)
set_option maxHeartbeats 8000000 in
set_option maxRecDepth 100000 in
theorem value_Right.calls (k : Nat) (a0_0 : Int) (a0_1 : Int) (a0_2 : Int) (a0_3 : Int) (r : Bool) (w : World) (h : value_Right.f k a0_0 a0_1 a0_2 a0_3 = some r) :
 Calls Tryz.prog 95 #[.agg #[.int .i64 a0_0, .int .i64 a0_1, .int .i64 a0_2, .int .i64 a0_3]] w fun e w' => e = .returned (.bool r) ∧ Below w.heap.size w w' := by
 have hu39 := Tryz.underlying39
 have HB := Aside0.mk (Below.refl w.heap.size w)
 have H : (if a0_2 = 0 then (value_Right.j0 k (a0_3 == 0) a0_0 a0_1 a0_2 a0_3) else (value_Right.j0 k false a0_0 a0_1 a0_2 a0_3)) = some r := h
 clear h
 have HC2 := Aside0.mk H
 clear H
 go_enter Tryz.func95, Tryz.ntmps95
 go_upto_region 1 with (first | ((with_reducible refine gate_dst (N := 1) rfl ?_); refine box_event ?hg (N := 1) ?hd (cs := #[.int .i64 a0_0, .int .i64 a0_1, .int .i64 a0_2, .int .i64 a0_3]) (t := 39) ?hr ?_; (case hd => rfl); (case hg => rfl); (case hr => first | (go_simp; done) | (go_simp; rfl)); intro gb121 hg w3 hbox hb; have BK121 := Aside0.mk (hbox); have GW121 := qT HB hg; have GE121 := qS HB hg; replace HB := Aside0.mk (below_step (qW HB.out) hb); clear hb hbox hg))
 (try simp only [Act.put, qa_, qz_, qs_])
 go_cut [3] (fun v3 wc => ∃ (kq : Nat) (x3_1 : Bool), v3 = .bool x3_1 ∧ Aside0 (value_Right.j0 kq x3_1 a0_0 a0_1 a0_2 a0_3 = some r) ∧ Aside0 (kq ≤ k) ∧ Aside0 (wc.heap[gb121]? = some (.cells #[.int .i64 a0_0, .int .i64 a0_1, .int .i64 a0_2, .int .i64 a0_3] 39 (0, 0))) ∧ Aside0 (Below w.heap.size w wc))
 case first =>
  have H := HC2.out
  clear HC2
  by_cases c4 : a0_2 = 0
  · rw [if_pos c4] at H
    have c4b0 : (a0_2 == 0) = true := beq_iff_eq.mpr c4
    have c4b1 : (a0_2 != 0) = false := bne_eq_false_iff_eq.mpr c4
    clear c4
    (first | rw [c4b0] | (simp only [i64_w, i32_w]; rw [c4b0]) | skip)
    have H' := Aside0.mk H
    clear H
    have hcz5_0 := qC BK121 0 rfl
    have hcz5_1 := qC BK121 1 rfl
    have hcz5_2 := qC BK121 2 rfl
    have hcz5_3 := qC BK121 3 rfl
    have hfz5_0 := blk_frozen BK121.out 0
    have hfz5_1 := blk_frozen BK121.out 1
    have hfz5_2 := blk_frozen BK121.out 2
    have hfz5_3 := blk_frozen BK121.out 3
    go_wp2
    go_meet
    case rel => exact ⟨_, ((a0_3 == 0)), (by first | rfl | (simp; done) | (simp [*]; done) | (simp [wrap64]; done)), H', ⟨by first | omega | exact Nat.le_refl _⟩, ⟨by (with_reducible repeat (first | refine blk_drewN ?_ _ | refine blk_drew ?_ | refine blk_alloc ?_ _)); exact BK121.out⟩, ⟨by exact qW HB.out⟩⟩
  · rw [if_neg c4] at H
    have c4b0 : (a0_2 == 0) = false := beq_eq_false_iff_ne.mpr c4
    have c4b1 : (a0_2 != 0) = true := bne_iff_ne.mpr c4
    (first | rw [c4b0] | (simp only [i64_w, i32_w]; rw [c4b0]) | skip)
    have H' := Aside0.mk H
    clear H
    have hcz6_0 := qC BK121 0 rfl
    have hcz6_1 := qC BK121 1 rfl
    have hcz6_2 := qC BK121 2 rfl
    have hcz6_3 := qC BK121 3 rfl
    have hfz6_0 := blk_frozen BK121.out 0
    have hfz6_1 := blk_frozen BK121.out 1
    have hfz6_2 := blk_frozen BK121.out 2
    have hfz6_3 := blk_frozen BK121.out 3
    go_wp2
    go_meet
    case rel => exact ⟨_, (false), (by first | rfl | (simp; done) | (simp [*]; done) | (simp [wrap64]; done)), H', ⟨by first | omega | exact Nat.le_refl _⟩, ⟨by (with_reducible repeat (first | refine blk_drewN ?_ _ | refine blk_drew ?_ | refine blk_alloc ?_ _)); exact BK121.out⟩, ⟨by exact qW HB.out⟩⟩
 case rest =>
  clear HC2
  try clear p2
  try clear c4
  try clear c4b0
  try clear c4b1
  try clear hcz5_0
  try clear hcz5_1
  try clear hcz5_2
  try clear hcz5_3
  try clear hcz6_0
  try clear hcz6_1
  try clear hcz6_2
  try clear hcz6_3
  try clear hfz5_0
  try clear hfz5_1
  try clear hfz5_2
  try clear hfz5_3
  try clear hfz6_0
  try clear hfz6_1
  try clear hfz6_2
  try clear hfz6_3
  obtain ⟨kq, x3_1, rfl, HA, HJ1, BK121, HB⟩ := hcut
  cases kq with
  | zero => exact absurd HA.out (by simp [value_Right.j0])
  | succ kj1 =>
   have H := HA.out
   clear HA
   simp only [value_Right.j0] at H
   replace H := Option.bind_eq_some_iff.mp H
   obtain ⟨t122, A70, H⟩ := H
   replace H : (if t122 = true then ((value_within.f a0_3 1 15).bind fun t123 => (if t123 = true then ((value_within.f a0_0 0 6).bind fun t124 => (if t124 = true then ((value_within.f a0_1 0 2).bind fun t125 => (if t125 = true then (if x3_1 = true then (some true) else (some (a0_2 != a0_3))) else (some false))) else (some false))) else ((value_within.f a0_0 0 6).bind fun t126 => (if t126 = true then ((value_within.f a0_1 0 2).bind fun t127 => (if t127 = true then (if x3_1 = true then (some true) else (some false)) else (some false))) else (some false))))) else ((value_within.f a0_0 0 6).bind fun t128 => (if t128 = true then ((value_within.f a0_1 0 2).bind fun t129 => (if t129 = true then (if x3_1 = true then (some true) else (some false)) else (some false))) else (some false)))) = some r := H
   have A7 := Aside0.mk A70
   clear A70
   by_cases c8 : t122 = true
   · subst c8
     have H1 : ((value_within.f a0_3 1 15).bind fun t123 => (if t123 = true then ((value_within.f a0_0 0 6).bind fun t124 => (if t124 = true then ((value_within.f a0_1 0 2).bind fun t125 => (if t125 = true then (if x3_1 = true then (some true) else (some (a0_2 != a0_3))) else (some false))) else (some false))) else ((value_within.f a0_0 0 6).bind fun t126 => (if t126 = true then ((value_within.f a0_1 0 2).bind fun t127 => (if t127 = true then (if x3_1 = true then (some true) else (some false)) else (some false))) else (some false))))) = some r := by rw [if_pos rfl] at H; exact H
     clear H
     have H := H1
     clear H1
     replace H := Option.bind_eq_some_iff.mp H
     obtain ⟨t123, A90, H⟩ := H
     replace H : (if t123 = true then ((value_within.f a0_0 0 6).bind fun t124 => (if t124 = true then ((value_within.f a0_1 0 2).bind fun t125 => (if t125 = true then (if x3_1 = true then (some true) else (some (a0_2 != a0_3))) else (some false))) else (some false))) else ((value_within.f a0_0 0 6).bind fun t126 => (if t126 = true then ((value_within.f a0_1 0 2).bind fun t127 => (if t127 = true then (if x3_1 = true then (some true) else (some false)) else (some false))) else (some false)))) = some r := H
     have A9 := Aside0.mk A90
     clear A90
     by_cases c10 : t123 = true
     · subst c10
       have H1 : ((value_within.f a0_0 0 6).bind fun t124 => (if t124 = true then ((value_within.f a0_1 0 2).bind fun t125 => (if t125 = true then (if x3_1 = true then (some true) else (some (a0_2 != a0_3))) else (some false))) else (some false))) = some r := by rw [if_pos rfl] at H; exact H
       clear H
       have H := H1
       clear H1
       replace H := Option.bind_eq_some_iff.mp H
       obtain ⟨t124, A110, H⟩ := H
       replace H : (if t124 = true then ((value_within.f a0_1 0 2).bind fun t125 => (if t125 = true then (if x3_1 = true then (some true) else (some (a0_2 != a0_3))) else (some false))) else (some false)) = some r := H
       have A11 := Aside0.mk A110
       clear A110
       by_cases c12 : t124 = true
       · subst c12
         have H1 : ((value_within.f a0_1 0 2).bind fun t125 => (if t125 = true then (if x3_1 = true then (some true) else (some (a0_2 != a0_3))) else (some false))) = some r := by rw [if_pos rfl] at H; exact H
         clear H
         have H := H1
         clear H1
         replace H := Option.bind_eq_some_iff.mp H
         obtain ⟨t125, A130, H⟩ := H
         replace H : (if t125 = true then (if x3_1 = true then (some true) else (some (a0_2 != a0_3))) else (some false)) = some r := H
         have A13 := Aside0.mk A130
         clear A130
         by_cases c14 : t125 = true
         · subst c14
           have H1 : (if x3_1 = true then (some true) else (some (a0_2 != a0_3))) = some r := by rw [if_pos rfl] at H; exact H
           clear H
           have H := H1
           clear H1
           by_cases c15 : x3_1 = true
           · subst c15
             have H1 : (some true) = some r := by rw [if_pos rfl] at H; exact H
             clear H
             have H := H1
             clear H1
             obtain rfl := Option.some.inj H
             have hcz16_0 := qC BK121 0 rfl
             have hcz16_1 := qC BK121 1 rfl
             have hcz16_2 := qC BK121 2 rfl
             have hcz16_3 := qC BK121 3 rfl
             have hfz16_0 := blk_frozen BK121.out 0
             have hfz16_1 := blk_frozen BK121.out 1
             have hfz16_2 := blk_frozen BK121.out 2
             have hfz16_3 := blk_frozen BK121.out 3
             go_wp2_with (first | ((with_reducible refine gate_callee (f := 112) rfl ?_); refine goesL_ (some 15) rfl rfl Tryz.func112 (by kernel_rfl) rfl #[.int .i64 a0_2, .int .i64 2, .int .i64 15] rfl (by (try simp only [List.map_toArray, List.map_cons, List.map_nil]); first | done | rfl | (simp only [List.length_drop, List.length_take]; rfl)) ?_; (with_reducible refine (value_within.calls a0_2 2 15 true _ A7.out).mono ?_); rintro e w' ⟨rfl, ⟨nd, rfl⟩⟩; refine ⟨_, rfl, ?_⟩) | (go_at_call 112; (with_reducible refine (value_within.calls a0_3 1 15 true _ A9.out).mono ?_); rintro e w' ⟨rfl, ⟨nd, rfl⟩⟩) | ((with_reducible refine gate_callee (f := 112) rfl ?_); refine goesL_ (some 30) rfl rfl Tryz.func112 (by kernel_rfl) rfl #[.int .i64 a0_0, .int .i64 0, .int .i64 6] rfl (by (try simp only [List.map_toArray, List.map_cons, List.map_nil]); first | done | rfl | (simp only [List.length_drop, List.length_take]; rfl)) ?_; (with_reducible refine (value_within.calls a0_0 0 6 true _ A11.out).mono ?_); rintro e w' ⟨rfl, ⟨nd, rfl⟩⟩; refine ⟨_, rfl, ?_⟩) | (go_at_call 112; (with_reducible refine (value_within.calls a0_1 0 2 true _ A13.out).mono ?_); rintro e w' ⟨rfl, ⟨nd, rfl⟩⟩))
             go_ret
             exact ⟨by first | rfl | (simp [errW_none, errW_some] <;> rfl) | (simp [*, errW_none, errW_some] <;> rfl), by exact qW HB.out⟩
           · replace c15 := Bool.eq_false_iff.mpr c15
             subst c15
             have H1 : (some (a0_2 != a0_3)) = some r := by rw [if_neg (show ¬ (false = true) by decide)] at H; exact H
             clear H
             have H := H1
             clear H1
             obtain rfl := Option.some.inj H
             have hcz17_0 := qC BK121 0 rfl
             have hcz17_1 := qC BK121 1 rfl
             have hcz17_2 := qC BK121 2 rfl
             have hcz17_3 := qC BK121 3 rfl
             have hfz17_0 := blk_frozen BK121.out 0
             have hfz17_1 := blk_frozen BK121.out 1
             have hfz17_2 := blk_frozen BK121.out 2
             have hfz17_3 := blk_frozen BK121.out 3
             go_wp2_with (first | ((with_reducible refine gate_callee (f := 112) rfl ?_); refine goesL_ (some 15) rfl rfl Tryz.func112 (by kernel_rfl) rfl #[.int .i64 a0_2, .int .i64 2, .int .i64 15] rfl (by (try simp only [List.map_toArray, List.map_cons, List.map_nil]); first | done | rfl | (simp only [List.length_drop, List.length_take]; rfl)) ?_; (with_reducible refine (value_within.calls a0_2 2 15 true _ A7.out).mono ?_); rintro e w' ⟨rfl, ⟨nd, rfl⟩⟩; refine ⟨_, rfl, ?_⟩) | (go_at_call 112; (with_reducible refine (value_within.calls a0_3 1 15 true _ A9.out).mono ?_); rintro e w' ⟨rfl, ⟨nd, rfl⟩⟩) | ((with_reducible refine gate_callee (f := 112) rfl ?_); refine goesL_ (some 30) rfl rfl Tryz.func112 (by kernel_rfl) rfl #[.int .i64 a0_0, .int .i64 0, .int .i64 6] rfl (by (try simp only [List.map_toArray, List.map_cons, List.map_nil]); first | done | rfl | (simp only [List.length_drop, List.length_take]; rfl)) ?_; (with_reducible refine (value_within.calls a0_0 0 6 true _ A11.out).mono ?_); rintro e w' ⟨rfl, ⟨nd, rfl⟩⟩; refine ⟨_, rfl, ?_⟩) | (go_at_call 112; (with_reducible refine (value_within.calls a0_1 0 2 true _ A13.out).mono ?_); rintro e w' ⟨rfl, ⟨nd, rfl⟩⟩))
             go_ret
             exact ⟨by first | rfl | (simp [errW_none, errW_some] <;> rfl) | (simp [*, errW_none, errW_some] <;> rfl), by exact qW HB.out⟩
         · replace c14 := Bool.eq_false_iff.mpr c14
           subst c14
           have H1 : (some false) = some r := by rw [if_neg (show ¬ (false = true) by decide)] at H; exact H
           clear H
           have H := H1
           clear H1
           obtain rfl := Option.some.inj H
           have hcz18_0 := qC BK121 0 rfl
           have hcz18_1 := qC BK121 1 rfl
           have hcz18_2 := qC BK121 2 rfl
           have hcz18_3 := qC BK121 3 rfl
           have hfz18_0 := blk_frozen BK121.out 0
           have hfz18_1 := blk_frozen BK121.out 1
           have hfz18_2 := blk_frozen BK121.out 2
           have hfz18_3 := blk_frozen BK121.out 3
           go_wp2_with (first | ((with_reducible refine gate_callee (f := 112) rfl ?_); refine goesL_ (some 15) rfl rfl Tryz.func112 (by kernel_rfl) rfl #[.int .i64 a0_2, .int .i64 2, .int .i64 15] rfl (by (try simp only [List.map_toArray, List.map_cons, List.map_nil]); first | done | rfl | (simp only [List.length_drop, List.length_take]; rfl)) ?_; (with_reducible refine (value_within.calls a0_2 2 15 true _ A7.out).mono ?_); rintro e w' ⟨rfl, ⟨nd, rfl⟩⟩; refine ⟨_, rfl, ?_⟩) | (go_at_call 112; (with_reducible refine (value_within.calls a0_3 1 15 true _ A9.out).mono ?_); rintro e w' ⟨rfl, ⟨nd, rfl⟩⟩) | ((with_reducible refine gate_callee (f := 112) rfl ?_); refine goesL_ (some 30) rfl rfl Tryz.func112 (by kernel_rfl) rfl #[.int .i64 a0_0, .int .i64 0, .int .i64 6] rfl (by (try simp only [List.map_toArray, List.map_cons, List.map_nil]); first | done | rfl | (simp only [List.length_drop, List.length_take]; rfl)) ?_; (with_reducible refine (value_within.calls a0_0 0 6 true _ A11.out).mono ?_); rintro e w' ⟨rfl, ⟨nd, rfl⟩⟩; refine ⟨_, rfl, ?_⟩) | (go_at_call 112; (with_reducible refine (value_within.calls a0_1 0 2 false _ A13.out).mono ?_); rintro e w' ⟨rfl, ⟨nd, rfl⟩⟩))
           go_ret
           exact ⟨by first | rfl | (simp [errW_none, errW_some] <;> rfl) | (simp [*, errW_none, errW_some] <;> rfl), by exact qW HB.out⟩
       · replace c12 := Bool.eq_false_iff.mpr c12
         subst c12
         have H1 : (some false) = some r := by rw [if_neg (show ¬ (false = true) by decide)] at H; exact H
         clear H
         have H := H1
         clear H1
         obtain rfl := Option.some.inj H
         have hcz19_0 := qC BK121 0 rfl
         have hcz19_1 := qC BK121 1 rfl
         have hcz19_2 := qC BK121 2 rfl
         have hcz19_3 := qC BK121 3 rfl
         have hfz19_0 := blk_frozen BK121.out 0
         have hfz19_1 := blk_frozen BK121.out 1
         have hfz19_2 := blk_frozen BK121.out 2
         have hfz19_3 := blk_frozen BK121.out 3
         go_wp2_with (first | ((with_reducible refine gate_callee (f := 112) rfl ?_); refine goesL_ (some 15) rfl rfl Tryz.func112 (by kernel_rfl) rfl #[.int .i64 a0_2, .int .i64 2, .int .i64 15] rfl (by (try simp only [List.map_toArray, List.map_cons, List.map_nil]); first | done | rfl | (simp only [List.length_drop, List.length_take]; rfl)) ?_; (with_reducible refine (value_within.calls a0_2 2 15 true _ A7.out).mono ?_); rintro e w' ⟨rfl, ⟨nd, rfl⟩⟩; refine ⟨_, rfl, ?_⟩) | (go_at_call 112; (with_reducible refine (value_within.calls a0_3 1 15 true _ A9.out).mono ?_); rintro e w' ⟨rfl, ⟨nd, rfl⟩⟩) | ((with_reducible refine gate_callee (f := 112) rfl ?_); refine goesL_ (some 30) rfl rfl Tryz.func112 (by kernel_rfl) rfl #[.int .i64 a0_0, .int .i64 0, .int .i64 6] rfl (by (try simp only [List.map_toArray, List.map_cons, List.map_nil]); first | done | rfl | (simp only [List.length_drop, List.length_take]; rfl)) ?_; (with_reducible refine (value_within.calls a0_0 0 6 false _ A11.out).mono ?_); rintro e w' ⟨rfl, ⟨nd, rfl⟩⟩; refine ⟨_, rfl, ?_⟩))
         go_ret
         exact ⟨by first | rfl | (simp [errW_none, errW_some] <;> rfl) | (simp [*, errW_none, errW_some] <;> rfl), by exact qW HB.out⟩
     · replace c10 := Bool.eq_false_iff.mpr c10
       subst c10
       have H1 : ((value_within.f a0_0 0 6).bind fun t126 => (if t126 = true then ((value_within.f a0_1 0 2).bind fun t127 => (if t127 = true then (if x3_1 = true then (some true) else (some false)) else (some false))) else (some false))) = some r := by rw [if_neg (show ¬ (false = true) by decide)] at H; exact H
       clear H
       have H := H1
       clear H1
       replace H := Option.bind_eq_some_iff.mp H
       obtain ⟨t126, A200, H⟩ := H
       replace H : (if t126 = true then ((value_within.f a0_1 0 2).bind fun t127 => (if t127 = true then (if x3_1 = true then (some true) else (some false)) else (some false))) else (some false)) = some r := H
       have A20 := Aside0.mk A200
       clear A200
       by_cases c21 : t126 = true
       · subst c21
         have H1 : ((value_within.f a0_1 0 2).bind fun t127 => (if t127 = true then (if x3_1 = true then (some true) else (some false)) else (some false))) = some r := by rw [if_pos rfl] at H; exact H
         clear H
         have H := H1
         clear H1
         replace H := Option.bind_eq_some_iff.mp H
         obtain ⟨t127, A220, H⟩ := H
         replace H : (if t127 = true then (if x3_1 = true then (some true) else (some false)) else (some false)) = some r := H
         have A22 := Aside0.mk A220
         clear A220
         by_cases c23 : t127 = true
         · subst c23
           have H1 : (if x3_1 = true then (some true) else (some false)) = some r := by rw [if_pos rfl] at H; exact H
           clear H
           have H := H1
           clear H1
           by_cases c24 : x3_1 = true
           · subst c24
             have H1 : (some true) = some r := by rw [if_pos rfl] at H; exact H
             clear H
             have H := H1
             clear H1
             obtain rfl := Option.some.inj H
             have hcz25_0 := qC BK121 0 rfl
             have hcz25_1 := qC BK121 1 rfl
             have hcz25_2 := qC BK121 2 rfl
             have hcz25_3 := qC BK121 3 rfl
             have hfz25_0 := blk_frozen BK121.out 0
             have hfz25_1 := blk_frozen BK121.out 1
             have hfz25_2 := blk_frozen BK121.out 2
             have hfz25_3 := blk_frozen BK121.out 3
             go_wp2_with (first | ((with_reducible refine gate_callee (f := 112) rfl ?_); refine goesL_ (some 15) rfl rfl Tryz.func112 (by kernel_rfl) rfl #[.int .i64 a0_2, .int .i64 2, .int .i64 15] rfl (by (try simp only [List.map_toArray, List.map_cons, List.map_nil]); first | done | rfl | (simp only [List.length_drop, List.length_take]; rfl)) ?_; (with_reducible refine (value_within.calls a0_2 2 15 true _ A7.out).mono ?_); rintro e w' ⟨rfl, ⟨nd, rfl⟩⟩; refine ⟨_, rfl, ?_⟩) | (go_at_call 112; (with_reducible refine (value_within.calls a0_3 1 15 false _ A9.out).mono ?_); rintro e w' ⟨rfl, ⟨nd, rfl⟩⟩) | ((with_reducible refine gate_callee (f := 112) rfl ?_); refine goesL_ (some 30) rfl rfl Tryz.func112 (by kernel_rfl) rfl #[.int .i64 a0_0, .int .i64 0, .int .i64 6] rfl (by (try simp only [List.map_toArray, List.map_cons, List.map_nil]); first | done | rfl | (simp only [List.length_drop, List.length_take]; rfl)) ?_; (with_reducible refine (value_within.calls a0_0 0 6 true _ A20.out).mono ?_); rintro e w' ⟨rfl, ⟨nd, rfl⟩⟩; refine ⟨_, rfl, ?_⟩) | (go_at_call 112; (with_reducible refine (value_within.calls a0_1 0 2 true _ A22.out).mono ?_); rintro e w' ⟨rfl, ⟨nd, rfl⟩⟩))
             go_ret
             exact ⟨by first | rfl | (simp [errW_none, errW_some] <;> rfl) | (simp [*, errW_none, errW_some] <;> rfl), by exact qW HB.out⟩
           · replace c24 := Bool.eq_false_iff.mpr c24
             subst c24
             have H1 : (some false) = some r := by rw [if_neg (show ¬ (false = true) by decide)] at H; exact H
             clear H
             have H := H1
             clear H1
             obtain rfl := Option.some.inj H
             have hcz26_0 := qC BK121 0 rfl
             have hcz26_1 := qC BK121 1 rfl
             have hcz26_2 := qC BK121 2 rfl
             have hcz26_3 := qC BK121 3 rfl
             have hfz26_0 := blk_frozen BK121.out 0
             have hfz26_1 := blk_frozen BK121.out 1
             have hfz26_2 := blk_frozen BK121.out 2
             have hfz26_3 := blk_frozen BK121.out 3
             go_wp2_with (first | ((with_reducible refine gate_callee (f := 112) rfl ?_); refine goesL_ (some 15) rfl rfl Tryz.func112 (by kernel_rfl) rfl #[.int .i64 a0_2, .int .i64 2, .int .i64 15] rfl (by (try simp only [List.map_toArray, List.map_cons, List.map_nil]); first | done | rfl | (simp only [List.length_drop, List.length_take]; rfl)) ?_; (with_reducible refine (value_within.calls a0_2 2 15 true _ A7.out).mono ?_); rintro e w' ⟨rfl, ⟨nd, rfl⟩⟩; refine ⟨_, rfl, ?_⟩) | (go_at_call 112; (with_reducible refine (value_within.calls a0_3 1 15 false _ A9.out).mono ?_); rintro e w' ⟨rfl, ⟨nd, rfl⟩⟩) | ((with_reducible refine gate_callee (f := 112) rfl ?_); refine goesL_ (some 30) rfl rfl Tryz.func112 (by kernel_rfl) rfl #[.int .i64 a0_0, .int .i64 0, .int .i64 6] rfl (by (try simp only [List.map_toArray, List.map_cons, List.map_nil]); first | done | rfl | (simp only [List.length_drop, List.length_take]; rfl)) ?_; (with_reducible refine (value_within.calls a0_0 0 6 true _ A20.out).mono ?_); rintro e w' ⟨rfl, ⟨nd, rfl⟩⟩; refine ⟨_, rfl, ?_⟩) | (go_at_call 112; (with_reducible refine (value_within.calls a0_1 0 2 true _ A22.out).mono ?_); rintro e w' ⟨rfl, ⟨nd, rfl⟩⟩))
             go_ret
             exact ⟨by first | rfl | (simp [errW_none, errW_some] <;> rfl) | (simp [*, errW_none, errW_some] <;> rfl), by exact qW HB.out⟩
         · replace c23 := Bool.eq_false_iff.mpr c23
           subst c23
           have H1 : (some false) = some r := by rw [if_neg (show ¬ (false = true) by decide)] at H; exact H
           clear H
           have H := H1
           clear H1
           obtain rfl := Option.some.inj H
           have hcz27_0 := qC BK121 0 rfl
           have hcz27_1 := qC BK121 1 rfl
           have hcz27_2 := qC BK121 2 rfl
           have hcz27_3 := qC BK121 3 rfl
           have hfz27_0 := blk_frozen BK121.out 0
           have hfz27_1 := blk_frozen BK121.out 1
           have hfz27_2 := blk_frozen BK121.out 2
           have hfz27_3 := blk_frozen BK121.out 3
           go_wp2_with (first | ((with_reducible refine gate_callee (f := 112) rfl ?_); refine goesL_ (some 15) rfl rfl Tryz.func112 (by kernel_rfl) rfl #[.int .i64 a0_2, .int .i64 2, .int .i64 15] rfl (by (try simp only [List.map_toArray, List.map_cons, List.map_nil]); first | done | rfl | (simp only [List.length_drop, List.length_take]; rfl)) ?_; (with_reducible refine (value_within.calls a0_2 2 15 true _ A7.out).mono ?_); rintro e w' ⟨rfl, ⟨nd, rfl⟩⟩; refine ⟨_, rfl, ?_⟩) | (go_at_call 112; (with_reducible refine (value_within.calls a0_3 1 15 false _ A9.out).mono ?_); rintro e w' ⟨rfl, ⟨nd, rfl⟩⟩) | ((with_reducible refine gate_callee (f := 112) rfl ?_); refine goesL_ (some 30) rfl rfl Tryz.func112 (by kernel_rfl) rfl #[.int .i64 a0_0, .int .i64 0, .int .i64 6] rfl (by (try simp only [List.map_toArray, List.map_cons, List.map_nil]); first | done | rfl | (simp only [List.length_drop, List.length_take]; rfl)) ?_; (with_reducible refine (value_within.calls a0_0 0 6 true _ A20.out).mono ?_); rintro e w' ⟨rfl, ⟨nd, rfl⟩⟩; refine ⟨_, rfl, ?_⟩) | (go_at_call 112; (with_reducible refine (value_within.calls a0_1 0 2 false _ A22.out).mono ?_); rintro e w' ⟨rfl, ⟨nd, rfl⟩⟩))
           go_ret
           exact ⟨by first | rfl | (simp [errW_none, errW_some] <;> rfl) | (simp [*, errW_none, errW_some] <;> rfl), by exact qW HB.out⟩
       · replace c21 := Bool.eq_false_iff.mpr c21
         subst c21
         have H1 : (some false) = some r := by rw [if_neg (show ¬ (false = true) by decide)] at H; exact H
         clear H
         have H := H1
         clear H1
         obtain rfl := Option.some.inj H
         have hcz28_0 := qC BK121 0 rfl
         have hcz28_1 := qC BK121 1 rfl
         have hcz28_2 := qC BK121 2 rfl
         have hcz28_3 := qC BK121 3 rfl
         have hfz28_0 := blk_frozen BK121.out 0
         have hfz28_1 := blk_frozen BK121.out 1
         have hfz28_2 := blk_frozen BK121.out 2
         have hfz28_3 := blk_frozen BK121.out 3
         go_wp2_with (first | ((with_reducible refine gate_callee (f := 112) rfl ?_); refine goesL_ (some 15) rfl rfl Tryz.func112 (by kernel_rfl) rfl #[.int .i64 a0_2, .int .i64 2, .int .i64 15] rfl (by (try simp only [List.map_toArray, List.map_cons, List.map_nil]); first | done | rfl | (simp only [List.length_drop, List.length_take]; rfl)) ?_; (with_reducible refine (value_within.calls a0_2 2 15 true _ A7.out).mono ?_); rintro e w' ⟨rfl, ⟨nd, rfl⟩⟩; refine ⟨_, rfl, ?_⟩) | (go_at_call 112; (with_reducible refine (value_within.calls a0_3 1 15 false _ A9.out).mono ?_); rintro e w' ⟨rfl, ⟨nd, rfl⟩⟩) | ((with_reducible refine gate_callee (f := 112) rfl ?_); refine goesL_ (some 30) rfl rfl Tryz.func112 (by kernel_rfl) rfl #[.int .i64 a0_0, .int .i64 0, .int .i64 6] rfl (by (try simp only [List.map_toArray, List.map_cons, List.map_nil]); first | done | rfl | (simp only [List.length_drop, List.length_take]; rfl)) ?_; (with_reducible refine (value_within.calls a0_0 0 6 false _ A20.out).mono ?_); rintro e w' ⟨rfl, ⟨nd, rfl⟩⟩; refine ⟨_, rfl, ?_⟩))
         go_ret
         exact ⟨by first | rfl | (simp [errW_none, errW_some] <;> rfl) | (simp [*, errW_none, errW_some] <;> rfl), by exact qW HB.out⟩
   · replace c8 := Bool.eq_false_iff.mpr c8
     subst c8
     have H1 : ((value_within.f a0_0 0 6).bind fun t128 => (if t128 = true then ((value_within.f a0_1 0 2).bind fun t129 => (if t129 = true then (if x3_1 = true then (some true) else (some false)) else (some false))) else (some false))) = some r := by rw [if_neg (show ¬ (false = true) by decide)] at H; exact H
     clear H
     have H := H1
     clear H1
     replace H := Option.bind_eq_some_iff.mp H
     obtain ⟨t128, A290, H⟩ := H
     replace H : (if t128 = true then ((value_within.f a0_1 0 2).bind fun t129 => (if t129 = true then (if x3_1 = true then (some true) else (some false)) else (some false))) else (some false)) = some r := H
     have A29 := Aside0.mk A290
     clear A290
     by_cases c30 : t128 = true
     · subst c30
       have H1 : ((value_within.f a0_1 0 2).bind fun t129 => (if t129 = true then (if x3_1 = true then (some true) else (some false)) else (some false))) = some r := by rw [if_pos rfl] at H; exact H
       clear H
       have H := H1
       clear H1
       replace H := Option.bind_eq_some_iff.mp H
       obtain ⟨t129, A310, H⟩ := H
       replace H : (if t129 = true then (if x3_1 = true then (some true) else (some false)) else (some false)) = some r := H
       have A31 := Aside0.mk A310
       clear A310
       by_cases c32 : t129 = true
       · subst c32
         have H1 : (if x3_1 = true then (some true) else (some false)) = some r := by rw [if_pos rfl] at H; exact H
         clear H
         have H := H1
         clear H1
         by_cases c33 : x3_1 = true
         · subst c33
           have H1 : (some true) = some r := by rw [if_pos rfl] at H; exact H
           clear H
           have H := H1
           clear H1
           obtain rfl := Option.some.inj H
           have hcz34_0 := qC BK121 0 rfl
           have hcz34_1 := qC BK121 1 rfl
           have hcz34_2 := qC BK121 2 rfl
           have hcz34_3 := qC BK121 3 rfl
           have hfz34_0 := blk_frozen BK121.out 0
           have hfz34_1 := blk_frozen BK121.out 1
           have hfz34_2 := blk_frozen BK121.out 2
           have hfz34_3 := blk_frozen BK121.out 3
           go_wp2_with (first | ((with_reducible refine gate_callee (f := 112) rfl ?_); refine goesL_ (some 15) rfl rfl Tryz.func112 (by kernel_rfl) rfl #[.int .i64 a0_2, .int .i64 2, .int .i64 15] rfl (by (try simp only [List.map_toArray, List.map_cons, List.map_nil]); first | done | rfl | (simp only [List.length_drop, List.length_take]; rfl)) ?_; (with_reducible refine (value_within.calls a0_2 2 15 false _ A7.out).mono ?_); rintro e w' ⟨rfl, ⟨nd, rfl⟩⟩; refine ⟨_, rfl, ?_⟩) | ((with_reducible refine gate_callee (f := 112) rfl ?_); refine goesL_ (some 30) rfl rfl Tryz.func112 (by kernel_rfl) rfl #[.int .i64 a0_0, .int .i64 0, .int .i64 6] rfl (by (try simp only [List.map_toArray, List.map_cons, List.map_nil]); first | done | rfl | (simp only [List.length_drop, List.length_take]; rfl)) ?_; (with_reducible refine (value_within.calls a0_0 0 6 true _ A29.out).mono ?_); rintro e w' ⟨rfl, ⟨nd, rfl⟩⟩; refine ⟨_, rfl, ?_⟩) | (go_at_call 112; (with_reducible refine (value_within.calls a0_1 0 2 true _ A31.out).mono ?_); rintro e w' ⟨rfl, ⟨nd, rfl⟩⟩))
           go_ret
           exact ⟨by first | rfl | (simp [errW_none, errW_some] <;> rfl) | (simp [*, errW_none, errW_some] <;> rfl), by exact qW HB.out⟩
         · replace c33 := Bool.eq_false_iff.mpr c33
           subst c33
           have H1 : (some false) = some r := by rw [if_neg (show ¬ (false = true) by decide)] at H; exact H
           clear H
           have H := H1
           clear H1
           obtain rfl := Option.some.inj H
           have hcz35_0 := qC BK121 0 rfl
           have hcz35_1 := qC BK121 1 rfl
           have hcz35_2 := qC BK121 2 rfl
           have hcz35_3 := qC BK121 3 rfl
           have hfz35_0 := blk_frozen BK121.out 0
           have hfz35_1 := blk_frozen BK121.out 1
           have hfz35_2 := blk_frozen BK121.out 2
           have hfz35_3 := blk_frozen BK121.out 3
           go_wp2_with (first | ((with_reducible refine gate_callee (f := 112) rfl ?_); refine goesL_ (some 15) rfl rfl Tryz.func112 (by kernel_rfl) rfl #[.int .i64 a0_2, .int .i64 2, .int .i64 15] rfl (by (try simp only [List.map_toArray, List.map_cons, List.map_nil]); first | done | rfl | (simp only [List.length_drop, List.length_take]; rfl)) ?_; (with_reducible refine (value_within.calls a0_2 2 15 false _ A7.out).mono ?_); rintro e w' ⟨rfl, ⟨nd, rfl⟩⟩; refine ⟨_, rfl, ?_⟩) | ((with_reducible refine gate_callee (f := 112) rfl ?_); refine goesL_ (some 30) rfl rfl Tryz.func112 (by kernel_rfl) rfl #[.int .i64 a0_0, .int .i64 0, .int .i64 6] rfl (by (try simp only [List.map_toArray, List.map_cons, List.map_nil]); first | done | rfl | (simp only [List.length_drop, List.length_take]; rfl)) ?_; (with_reducible refine (value_within.calls a0_0 0 6 true _ A29.out).mono ?_); rintro e w' ⟨rfl, ⟨nd, rfl⟩⟩; refine ⟨_, rfl, ?_⟩) | (go_at_call 112; (with_reducible refine (value_within.calls a0_1 0 2 true _ A31.out).mono ?_); rintro e w' ⟨rfl, ⟨nd, rfl⟩⟩))
           go_ret
           exact ⟨by first | rfl | (simp [errW_none, errW_some] <;> rfl) | (simp [*, errW_none, errW_some] <;> rfl), by exact qW HB.out⟩
       · replace c32 := Bool.eq_false_iff.mpr c32
         subst c32
         have H1 : (some false) = some r := by rw [if_neg (show ¬ (false = true) by decide)] at H; exact H
         clear H
         have H := H1
         clear H1
         obtain rfl := Option.some.inj H
         have hcz36_0 := qC BK121 0 rfl
         have hcz36_1 := qC BK121 1 rfl
         have hcz36_2 := qC BK121 2 rfl
         have hcz36_3 := qC BK121 3 rfl
         have hfz36_0 := blk_frozen BK121.out 0
         have hfz36_1 := blk_frozen BK121.out 1
         have hfz36_2 := blk_frozen BK121.out 2
         have hfz36_3 := blk_frozen BK121.out 3
         go_wp2_with (first | ((with_reducible refine gate_callee (f := 112) rfl ?_); refine goesL_ (some 15) rfl rfl Tryz.func112 (by kernel_rfl) rfl #[.int .i64 a0_2, .int .i64 2, .int .i64 15] rfl (by (try simp only [List.map_toArray, List.map_cons, List.map_nil]); first | done | rfl | (simp only [List.length_drop, List.length_take]; rfl)) ?_; (with_reducible refine (value_within.calls a0_2 2 15 false _ A7.out).mono ?_); rintro e w' ⟨rfl, ⟨nd, rfl⟩⟩; refine ⟨_, rfl, ?_⟩) | ((with_reducible refine gate_callee (f := 112) rfl ?_); refine goesL_ (some 30) rfl rfl Tryz.func112 (by kernel_rfl) rfl #[.int .i64 a0_0, .int .i64 0, .int .i64 6] rfl (by (try simp only [List.map_toArray, List.map_cons, List.map_nil]); first | done | rfl | (simp only [List.length_drop, List.length_take]; rfl)) ?_; (with_reducible refine (value_within.calls a0_0 0 6 true _ A29.out).mono ?_); rintro e w' ⟨rfl, ⟨nd, rfl⟩⟩; refine ⟨_, rfl, ?_⟩) | (go_at_call 112; (with_reducible refine (value_within.calls a0_1 0 2 false _ A31.out).mono ?_); rintro e w' ⟨rfl, ⟨nd, rfl⟩⟩))
         go_ret
         exact ⟨by first | rfl | (simp [errW_none, errW_some] <;> rfl) | (simp [*, errW_none, errW_some] <;> rfl), by exact qW HB.out⟩
     · replace c30 := Bool.eq_false_iff.mpr c30
       subst c30
       have H1 : (some false) = some r := by rw [if_neg (show ¬ (false = true) by decide)] at H; exact H
       clear H
       have H := H1
       clear H1
       obtain rfl := Option.some.inj H
       have hcz37_0 := qC BK121 0 rfl
       have hcz37_1 := qC BK121 1 rfl
       have hcz37_2 := qC BK121 2 rfl
       have hcz37_3 := qC BK121 3 rfl
       have hfz37_0 := blk_frozen BK121.out 0
       have hfz37_1 := blk_frozen BK121.out 1
       have hfz37_2 := blk_frozen BK121.out 2
       have hfz37_3 := blk_frozen BK121.out 3
       go_wp2_with (first | ((with_reducible refine gate_callee (f := 112) rfl ?_); refine goesL_ (some 15) rfl rfl Tryz.func112 (by kernel_rfl) rfl #[.int .i64 a0_2, .int .i64 2, .int .i64 15] rfl (by (try simp only [List.map_toArray, List.map_cons, List.map_nil]); first | done | rfl | (simp only [List.length_drop, List.length_take]; rfl)) ?_; (with_reducible refine (value_within.calls a0_2 2 15 false _ A7.out).mono ?_); rintro e w' ⟨rfl, ⟨nd, rfl⟩⟩; refine ⟨_, rfl, ?_⟩) | ((with_reducible refine gate_callee (f := 112) rfl ?_); refine goesL_ (some 30) rfl rfl Tryz.func112 (by kernel_rfl) rfl #[.int .i64 a0_0, .int .i64 0, .int .i64 6] rfl (by (try simp only [List.map_toArray, List.map_cons, List.map_nil]); first | done | rfl | (simp only [List.length_drop, List.length_take]; rfl)) ?_; (with_reducible refine (value_within.calls a0_0 0 6 false _ A29.out).mono ?_); rintro e w' ⟨rfl, ⟨nd, rfl⟩⟩; refine ⟨_, rfl, ?_⟩))
       go_ret
       exact ⟨by first | rfl | (simp [errW_none, errW_some] <;> rfl) | (simp [*, errW_none, errW_some] <;> rfl), by exact qW HB.out⟩

/-! ### utf8_word_string: function 125 -/
/-! ### event_plain: function 96 -/
/-- Is a word right? -/
def event_plain.f (a0 : ByteArray) : Option Bool := some (plnB a0)
theorem event_plain.calls (a0 : ByteArray) (r : Bool) (w : World) (h : event_plain.f a0 = some r) (SENTS : Aside0 (SentsE w) := by exact sents_step (by assumption) (by repeat (first | (with_reducible first | exact (by assumption : Aside0 (Below _ _ _)).out | apply below_alloc | apply pw_below_drewN | apply below_drew1)))) :
 Calls Tryz.prog 96 #[.string a0] w fun e w' => e = .returned (.bool r) ∧ Below w.heap.size w w' := by
  obtain rfl := Option.some.inj h
  exact plain_calls a0 w SENTS.out.tabs

-- NOT PRINTED: function 116 (event_rises_int)

/-! ### event_marked: function 97 -/
def event_marked.l0 : Nat → List Int → List Int → Int → Int → Option (Bool)
 | 0, _, _, _, _ => none
 | k + 1, x0, x5, x6, x7 => if x7 < x6 then (if 0 ≤ x7 then (if x7 < (x5.length : Int) then (if (rd x5 x7) < 1 then (some false) else (if (rd x5 x7) > 4 then (some false) else (event_marked.l0 k x0 x5 x6 (wrap64 (x7 + 1))))) else (none)) else (none)) else ((event_marked_1.f x0).bind fun t138 => (some t138))
def event_marked.f (k : Nat) (l0 : List Int) : Option (Bool) := event_marked.l0 k l0 l0 (l0.length : Int) 0
theorem event_marked.mono_l : ∀ k, (∀ y0 y1 y2 y3, LeO (event_marked.l0 k y0 y1 y2 y3) (event_marked.l0 (k + 1) y0 y1 y2 y3))
 | 0 => fun _ _ _ _ r h => by simp [event_marked.l0] at h
 | k + 1 => by
  have ih0 := event_marked.mono_l k
  · intro y0 y1 y2 y3
    unfold event_marked.l0
    repeat' first
    | (with_reducible exact ih0 _ _ _ _)
    | (with_reducible exact LeO.refl _)
    | (with_reducible exact LeO.none _)
    | (with_reducible refine LeO.ite ?_ ?_)
    | (with_reducible refine LeO.bind ?_ (fun _ => ?_))
    | exact ih0 _ _ _ _
    | exact LeO.none _
    | refine LeO.ite ?_ ?_
    | refine LeO.bind ?_ (fun _ => ?_)
theorem event_marked.mono : ∀ a0 k, LeO (event_marked.f k a0) (event_marked.f (k + 1) a0) := by
 intro a0 k
 have ih0 := event_marked.mono_l k
 unfold event_marked.f
 repeat' first
  | (with_reducible exact ih0 _ _ _ _)
  | (with_reducible exact LeO.refl _)
  | (with_reducible exact LeO.none _)
  | (with_reducible refine LeO.ite ?_ ?_)
  | (with_reducible refine LeO.bind ?_ (fun _ => ?_))
  | exact ih0 _ _ _ _
  | exact LeO.none _
  | refine LeO.ite ?_ ?_
  | refine LeO.bind ?_ (fun _ => ?_)
set_option maxHeartbeats 8000000 in
set_option maxRecDepth 100000 in
theorem event_marked.calls (k : Nat) (A0 : Option Addr) (c0 : Nat) (l0 : List Int) (r : Bool) (w : World) (hr0 : Kd.C (Kd.int .i64) w A0 l0.length l0) (hc0 : l0.length ≤ c0) (h : event_marked.f k l0 = some r) :
 Calls Tryz.prog 97 #[.slice A0 l0.length c0] w fun e w' => e = .returned (.bool r) ∧ Below w.heap.size w w' := by
 have HR0 := Aside0.mk hr0
 have HC0 := Aside0.mk hc0
 clear hr0 hc0
 have HB := Aside0.mk (Below.refl w.heap.size w)
 have H : (event_marked.l0 k l0 l0 (l0.length : Int) 0) = some r := h
 clear h
 have H' := Aside0.mk H
 clear H
 go_enter Tryz.func97, Tryz.ntmps97
 go_wp2
 go_loopg [7] k (fun kq v7 w' => ∃ (x7_1 : Int), v7 = .int .i64 x7_1 ∧ Aside0 (event_marked.l0 kq l0 l0 (l0.length : Int) x7_1 = some r) ∧ Aside0 (kq ≤ k) ∧ Aside0 (Below w.heap.size w w'))
 case atStart => exact ⟨(0), (by first | rfl | (simp; done) | (simp [*]; done) | (simp [wrap64]; done)), H', ⟨Nat.le_refl _⟩, ⟨by repeat (first | (with_reducible first | exact HB.out | apply below_alloc | apply pw_below_drewN | apply below_drew1) | exact HB.out)⟩⟩
 case round =>
  clear H'
  obtain ⟨x7_1, rfl, HA, HK1, HB⟩ := hrel
  cases gk with
  | zero => exact absurd HA.out (by simp [event_marked.l0])
  | succ k1 =>
   have H := HA.out
   clear HA
   simp only [event_marked.l0] at H
   by_cases c2 : x7_1 < (l0.length : Int)
   · rw [if_pos c2] at H
     have c2b0 : decide (x7_1 < (l0.length : Int)) = true := decide_eq_true c2
     clear c2
     by_cases c3 : 0 ≤ x7_1
     · rw [if_pos c3] at H
       have c3b0 : decide (0 ≤ x7_1) = true := decide_eq_true c3
       clear c3
       by_cases c4 : x7_1 < (l0.length : Int)
       · rw [if_pos c4] at H
         have c4b0 : decide (x7_1 < (l0.length : Int)) = true := decide_eq_true c4
         clear c4
         by_cases c5 : (rd l0 x7_1) < 1
         · rw [if_pos c5] at H
           have c5b0 : decide ((rd l0 x7_1) < 1) = true := decide_eq_true c5
           clear c5
           obtain rfl := Option.some.inj H
           have p137 : 0 ≤ (x7_1 : Int) := of_decide_eq_true (by first | (with_reducible assumption) | assumption)
           have q137 : x7_1 < (l0.length : Int) := of_decide_eq_true (by first | (with_reducible assumption) | assumption)
           obtain ⟨ad137, e137, hx137_0⟩ := Kd.at_int HR0.out x7_1 p137 q137
           cases e137
           replace hx137_0 := (HB.out.cell (World.block_lt_of_cell? w _ hx137_0)).trans hx137_0
           replace p137 := eq_true p137
           replace q137 := eq_true q137
           go_wp2
           go_ret
           exact ⟨by first | rfl | (simp [errW_none, errW_some] <;> rfl) | (simp [*, errW_none, errW_some] <;> rfl), by repeat (first | (with_reducible first | exact HB.out | apply below_alloc | apply pw_below_drewN | apply below_drew1) | exact HB.out)⟩
         · rw [if_neg c5] at H
           have c5b0 : decide ((rd l0 x7_1) < 1) = false := decide_eq_false c5
           clear c5
           by_cases c6 : (rd l0 x7_1) > 4
           · rw [if_pos c6] at H
             have c6b0 : decide (4 < (rd l0 x7_1)) = true := decide_eq_true c6
             clear c6
             obtain rfl := Option.some.inj H
             have p137 : 0 ≤ (x7_1 : Int) := of_decide_eq_true (by first | (with_reducible assumption) | assumption)
             have q137 : x7_1 < (l0.length : Int) := of_decide_eq_true (by first | (with_reducible assumption) | assumption)
             obtain ⟨ad137, e137, hx137_0⟩ := Kd.at_int HR0.out x7_1 p137 q137
             cases e137
             replace hx137_0 := (HB.out.cell (World.block_lt_of_cell? w _ hx137_0)).trans hx137_0
             replace p137 := eq_true p137
             replace q137 := eq_true q137
             go_wp2
             go_ret
             exact ⟨by first | rfl | (simp [errW_none, errW_some] <;> rfl) | (simp [*, errW_none, errW_some] <;> rfl), by repeat (first | (with_reducible first | exact HB.out | apply below_alloc | apply pw_below_drewN | apply below_drew1) | exact HB.out)⟩
           · rw [if_neg c6] at H
             have c6b0 : decide (4 < (rd l0 x7_1)) = false := decide_eq_false c6
             clear c6
             have H' := Aside0.mk H
             clear H
             have p137 : 0 ≤ (x7_1 : Int) := of_decide_eq_true (by first | (with_reducible assumption) | assumption)
             have q137 : x7_1 < (l0.length : Int) := of_decide_eq_true (by first | (with_reducible assumption) | assumption)
             obtain ⟨ad137, e137, hx137_0⟩ := Kd.at_int HR0.out x7_1 p137 q137
             cases e137
             replace hx137_0 := (HB.out.cell (World.block_lt_of_cell? w _ hx137_0)).trans hx137_0
             replace p137 := eq_true p137
             replace q137 := eq_true q137
             go_wp2
             go_roundg k1
             case measure => have := HK1.out; omega
             case rel => exact ⟨(wrap64 (x7_1 + 1)), (by first | rfl | (simp; done) | (simp [*]; done) | (simp [wrap64]; done)), H', ⟨by have := HK1.out; omega⟩, ⟨by repeat (first | (with_reducible first | exact HB.out | apply below_alloc | apply pw_below_drewN | apply below_drew1) | exact HB.out)⟩⟩
       · rw [if_neg c4] at H
         exact absurd H (by simp)
     · rw [if_neg c3] at H
       exact absurd H (by simp)
   · rw [if_neg c2] at H
     have c2b0 : decide (x7_1 < (l0.length : Int)) = false := decide_eq_false c2
     clear c2
     replace H := Option.bind_eq_some_iff.mp H
     obtain ⟨t138, A70, H⟩ := H
     replace H : (some t138) = some r := H
     have A7 := Aside0.mk A70
     clear A70
     obtain rfl := Option.some.inj H
     go_wp2_with (first | ((with_reducible refine gate_callee (f := 116) rfl ?_); refine goesL_ (some 19) rfl rfl Tryz.func116 (by kernel_rfl) rfl #[.slice A0 l0.length c0, .func (.func 117) #[] #[]] rfl (by (try simp only [List.map_toArray, List.map_cons, List.map_nil]); first | done | rfl | (simp only [List.length_drop, List.length_take]; rfl)) ?_; (with_reducible refine (event_marked_1.calls _ _ l0 t138 _ ?side1 ?side2 A7.out).mono ?_); (case side1 => repeat (first | exact (Kd.C_below HR0.out HB.out) | (with_reducible refine Kd.C_alloc ?_ _) | (with_reducible refine Kd.C_drewN ?_ _) | (with_reducible refine Kd.C_drew ?_))); (case side2 => exact HC0.out); rintro e w8 ⟨rfl, hb⟩; refine ⟨_, rfl, ?_⟩; have n0_ := Aside0.mk (below_step (by repeat (first | (with_reducible first | exact HB.out | apply below_alloc | apply pw_below_drewN | apply below_drew1) | exact HB.out)) hb); clear HB; have HB := n0_; clear n0_; (try clear hb); (try clear hb2); (try clear hk); (try clear hi)))
     go_ret
     exact ⟨by first | rfl | (simp [errW_none, errW_some] <;> rfl) | (simp [*, errW_none, errW_some] <;> rfl), by repeat (first | (with_reducible first | exact HB.out | apply below_alloc | apply pw_below_drewN | apply below_drew1) | exact HB.out)⟩

-- NOT PRINTED: function 100 (api_Pitch_100)

end Go.Proofs.YtocjbedacnlaaaaGreatDoor.Q
