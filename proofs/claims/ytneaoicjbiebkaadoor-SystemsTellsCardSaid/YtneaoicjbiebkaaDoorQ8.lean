-- Written by a program of this session (myprint.py), function by function.
import Derived.Test.YtneaoicjbiebkaaDoorQ0
import Derived.Test.YtneaoicjbiebkaaDoorQ2
namespace Go.Proofs.YtneaoicjbiebkaaDoor.Q
open Go.RowKit Go.Proofs.YtneaoicjbiebkaaDoorW.PrintWords Go.Proofs.YtneaoicjbiebkaaDoorW.PrintLast Go.Proofs.YtneaoicjbiebkaaDoorW.PrintMore
attribute [local go_sem] max2_int min2_int max_two min_two max_three min_three max_four min_four   -- for this text's walks alone
set_option linter.unusedVariables false
set_option linter.unusedSimpArgs false

/-! ### partitalaw25_laid: function 17 -/
mutual
def partitalaw25_laid.l0 : Nat → List Int → List Int → Int → List Int → List (S38) → Int → Int → Option ((List (S38)) × Bool)
 | 0, _, _, _, _, _, _, _ => none
 | k + 1, x0, x1, x2, x3, x10, x11, x12 => if x12 ≤ (x3.length : Int) then (if x12 < (x3.length : Int) then (if 0 ≤ x12 then (partitalaw25_laid.j1 k x0 x1 x2 x3 x10 x11 x12 (rd x3 x12)) else (none)) else (partitalaw25_laid.j1 k x0 x1 x2 x3 x10 x11 x12 (x0.length : Int))) else (some (x10, true))
def partitalaw25_laid.j1 : Nat → List Int → List Int → Int → List Int → List (S38) → Int → Int → Int → Option ((List (S38)) × Bool)
 | 0, _, _, _, _, _, _, _, _ => none
 | k + 1, x0, x1, x2, x3, x10, x11, x12, x13 => if x13 ≤ x11 then (partitalaw25_laid.j2 k x0 x1 x2 x3 x10 x11 x12 x13 true) else (partitalaw25_laid.j2 k x0 x1 x2 x3 x10 x11 x12 x13 (decide (x13 > (x0.length : Int))))
def partitalaw25_laid.j2 : Nat → List Int → List Int → Int → List Int → List (S38) → Int → Int → Int → Bool → Option ((List (S38)) × Bool)
 | 0, _, _, _, _, _, _, _, _, _ => none
 | k + 1, x0, x1, x2, x3, x10, x11, x12, x13, x43 => if x43 = true then (some (([] : List (S38)), false)) else (partitalaw25_laid.l1 k x0 x1 x2 x3 x10 x11 x12 x13 0 0 x11)
def partitalaw25_laid.l1 : Nat → List Int → List Int → Int → List Int → List (S38) → Int → Int → Int → Int → Int → Int → Option ((List (S38)) × Bool)
 | 0, _, _, _, _, _, _, _, _, _, _, _ => none
 | k + 1, x0, x1, x2, x3, x10, x11, x12, x13, x14, x15, x16 => if x16 < x13 then (if 0 ≤ x16 then (if x16 < (x0.length : Int) then (if x16 < (x1.length : Int) then (partitalaw25_laid.l1 k x0 x1 x2 x3 x10 x11 x12 x13 (wrap64 (x14 + (rd x0 x16))) (wrap64 (x15 + (rd x1 x16))) (wrap64 (x16 + 1))) else (none)) else (none)) else (none)) else ((systems_Cost.f k x14 x15 x2).bind fun bt215 => (if bt215.2 = true then (if x13 = (x0.length : Int) then (if x10.length < 5864062014805 then (partitalaw25_laid.l0 k x0 x1 x2 x3 (x10 ++ [(⟨x11, x13, 0⟩ : S38)]) x13 (wrap64 (x12 + 1))) else (none)) else (if x10.length < 5864062014805 then (partitalaw25_laid.l0 k x0 x1 x2 x3 (x10 ++ [(⟨x11, x13, bt215.1⟩ : S38)]) x13 (wrap64 (x12 + 1))) else (none))) else (some (([] : List (S38)), false))))
end
def partitalaw25_laid.f (k : Nat) (l0 : List Int) (l1 : List Int) (a2 : Int) (l3 : List Int) : Option ((List (S38)) × Bool) := partitalaw25_laid.l0 k l0 l1 a2 l3 ([] : List (S38)) 0 0
theorem partitalaw25_laid.mono_l : ∀ k, (∀ y0 y1 y2 y3 y4 y5 y6, LeO (partitalaw25_laid.l0 k y0 y1 y2 y3 y4 y5 y6) (partitalaw25_laid.l0 (k + 1) y0 y1 y2 y3 y4 y5 y6)) ∧ (∀ y0 y1 y2 y3 y4 y5 y6 y7, LeO (partitalaw25_laid.j1 k y0 y1 y2 y3 y4 y5 y6 y7) (partitalaw25_laid.j1 (k + 1) y0 y1 y2 y3 y4 y5 y6 y7)) ∧ (∀ y0 y1 y2 y3 y4 y5 y6 y7 y8, LeO (partitalaw25_laid.j2 k y0 y1 y2 y3 y4 y5 y6 y7 y8) (partitalaw25_laid.j2 (k + 1) y0 y1 y2 y3 y4 y5 y6 y7 y8)) ∧ (∀ y0 y1 y2 y3 y4 y5 y6 y7 y8 y9 y10, LeO (partitalaw25_laid.l1 k y0 y1 y2 y3 y4 y5 y6 y7 y8 y9 y10) (partitalaw25_laid.l1 (k + 1) y0 y1 y2 y3 y4 y5 y6 y7 y8 y9 y10))
 | 0 => ⟨fun _ _ _ _ _ _ _ r h => by simp [partitalaw25_laid.l0] at h, fun _ _ _ _ _ _ _ _ r h => by simp [partitalaw25_laid.j1] at h, fun _ _ _ _ _ _ _ _ _ r h => by simp [partitalaw25_laid.j2] at h, fun _ _ _ _ _ _ _ _ _ _ _ r h => by simp [partitalaw25_laid.l1] at h⟩
 | k + 1 => by
  obtain ⟨ih0, ih1, ih2, ih3⟩ := partitalaw25_laid.mono_l k
  refine ⟨?_, ?_, ?_, ?_⟩
  · intro y0 y1 y2 y3 y4 y5 y6
    unfold partitalaw25_laid.l0
    repeat' first
    | (with_reducible exact ih0 _ _ _ _ _ _ _)
    | (with_reducible exact ih1 _ _ _ _ _ _ _ _)
    | (with_reducible exact ih2 _ _ _ _ _ _ _ _ _)
    | (with_reducible exact ih3 _ _ _ _ _ _ _ _ _ _ _)
    | (with_reducible exact systems_Cost.mono _ _ _ _)
    | (with_reducible exact LeO.refl _)
    | (with_reducible exact LeO.none _)
    | (with_reducible refine LeO.ite ?_ ?_)
    | (with_reducible refine LeO.bind ?_ (fun _ => ?_))
    | exact ih0 _ _ _ _ _ _ _
    | exact ih1 _ _ _ _ _ _ _ _
    | exact ih2 _ _ _ _ _ _ _ _ _
    | exact ih3 _ _ _ _ _ _ _ _ _ _ _
    | exact systems_Cost.mono _ _ _ _
    | exact LeO.none _
    | refine LeO.ite ?_ ?_
    | refine LeO.bind ?_ (fun _ => ?_)
  · intro y0 y1 y2 y3 y4 y5 y6 y7
    unfold partitalaw25_laid.j1
    repeat' first
    | (with_reducible exact ih0 _ _ _ _ _ _ _)
    | (with_reducible exact ih1 _ _ _ _ _ _ _ _)
    | (with_reducible exact ih2 _ _ _ _ _ _ _ _ _)
    | (with_reducible exact ih3 _ _ _ _ _ _ _ _ _ _ _)
    | (with_reducible exact systems_Cost.mono _ _ _ _)
    | (with_reducible exact LeO.refl _)
    | (with_reducible exact LeO.none _)
    | (with_reducible refine LeO.ite ?_ ?_)
    | (with_reducible refine LeO.bind ?_ (fun _ => ?_))
    | exact ih0 _ _ _ _ _ _ _
    | exact ih1 _ _ _ _ _ _ _ _
    | exact ih2 _ _ _ _ _ _ _ _ _
    | exact ih3 _ _ _ _ _ _ _ _ _ _ _
    | exact systems_Cost.mono _ _ _ _
    | exact LeO.none _
    | refine LeO.ite ?_ ?_
    | refine LeO.bind ?_ (fun _ => ?_)
  · intro y0 y1 y2 y3 y4 y5 y6 y7 y8
    unfold partitalaw25_laid.j2
    repeat' first
    | (with_reducible exact ih0 _ _ _ _ _ _ _)
    | (with_reducible exact ih1 _ _ _ _ _ _ _ _)
    | (with_reducible exact ih2 _ _ _ _ _ _ _ _ _)
    | (with_reducible exact ih3 _ _ _ _ _ _ _ _ _ _ _)
    | (with_reducible exact systems_Cost.mono _ _ _ _)
    | (with_reducible exact LeO.refl _)
    | (with_reducible exact LeO.none _)
    | (with_reducible refine LeO.ite ?_ ?_)
    | (with_reducible refine LeO.bind ?_ (fun _ => ?_))
    | exact ih0 _ _ _ _ _ _ _
    | exact ih1 _ _ _ _ _ _ _ _
    | exact ih2 _ _ _ _ _ _ _ _ _
    | exact ih3 _ _ _ _ _ _ _ _ _ _ _
    | exact systems_Cost.mono _ _ _ _
    | exact LeO.none _
    | refine LeO.ite ?_ ?_
    | refine LeO.bind ?_ (fun _ => ?_)
  · intro y0 y1 y2 y3 y4 y5 y6 y7 y8 y9 y10
    unfold partitalaw25_laid.l1
    repeat' first
    | (with_reducible exact ih0 _ _ _ _ _ _ _)
    | (with_reducible exact ih1 _ _ _ _ _ _ _ _)
    | (with_reducible exact ih2 _ _ _ _ _ _ _ _ _)
    | (with_reducible exact ih3 _ _ _ _ _ _ _ _ _ _ _)
    | (with_reducible exact systems_Cost.mono _ _ _ _)
    | (with_reducible exact LeO.refl _)
    | (with_reducible exact LeO.none _)
    | (with_reducible refine LeO.ite ?_ ?_)
    | (with_reducible refine LeO.bind ?_ (fun _ => ?_))
    | exact ih0 _ _ _ _ _ _ _
    | exact ih1 _ _ _ _ _ _ _ _
    | exact ih2 _ _ _ _ _ _ _ _ _
    | exact ih3 _ _ _ _ _ _ _ _ _ _ _
    | exact systems_Cost.mono _ _ _ _
    | exact LeO.none _
    | refine LeO.ite ?_ ?_
    | refine LeO.bind ?_ (fun _ => ?_)
theorem partitalaw25_laid.mono : ∀ a0 a1 a2 a3 k, LeO (partitalaw25_laid.f k a0 a1 a2 a3) (partitalaw25_laid.f (k + 1) a0 a1 a2 a3) := by
 intro a0 a1 a2 a3 k
 obtain ⟨ih0, ih1, ih2, ih3⟩ := partitalaw25_laid.mono_l k
 unfold partitalaw25_laid.f
 repeat' first
  | (with_reducible exact ih0 _ _ _ _ _ _ _)
  | (with_reducible exact ih1 _ _ _ _ _ _ _ _)
  | (with_reducible exact ih2 _ _ _ _ _ _ _ _ _)
  | (with_reducible exact ih3 _ _ _ _ _ _ _ _ _ _ _)
  | (with_reducible exact systems_Cost.mono _ _ _ _)
  | (with_reducible exact LeO.refl _)
  | (with_reducible exact LeO.none _)
  | (with_reducible refine LeO.ite ?_ ?_)
  | (with_reducible refine LeO.bind ?_ (fun _ => ?_))
  | exact ih0 _ _ _ _ _ _ _
  | exact ih1 _ _ _ _ _ _ _ _
  | exact ih2 _ _ _ _ _ _ _ _ _
  | exact ih3 _ _ _ _ _ _ _ _ _ _ _
  | exact systems_Cost.mono _ _ _ _
  | exact LeO.none _
  | refine LeO.ite ?_ ?_
  | refine LeO.bind ?_ (fun _ => ?_)
set_option maxHeartbeats 8000000 in
set_option maxRecDepth 100000 in
theorem partitalaw25_laid.calls (k : Nat) (A0 : Option Addr) (c0 : Nat) (l0 : List Int) (A1 : Option Addr) (c1 : Nat) (l1 : List Int) (a2 : Int) (A3 : Option Addr) (c3 : Nat) (l3 : List Int) (r1 : List (S38)) (r2 : Bool) (w : World) (hr0 : Kd.C (Kd.int .i64) w A0 l0.length l0) (hc0 : l0.length ≤ c0) (hr1 : Kd.C (Kd.int .i64) w A1 l1.length l1) (hc1 : l1.length ≤ c1) (hr3 : Kd.C (Kd.int .i64) w A3 l3.length l3) (hc3 : l3.length ≤ c3) (h : partitalaw25_laid.f k l0 l1 a2 l3 = some (r1, r2)) :
 Calls Tryd.prog 17 #[.slice A0 l0.length c0, .slice A1 l1.length c1, .int .i64 a2, .slice A3 l3.length c3] w fun e w' => ∃ v0_ : Value, e = .returned (.tuple #[v0_, .bool r2]) ∧ Kd.R k38 38 w' w.heap.size (fun _ => True) v0_ r1 ∧ Below w.heap.size w w' := by
 have hu38 := Tryd.underlying38
 have HR0 := Aside0.mk hr0
 have HC0 := Aside0.mk hc0
 clear hr0 hc0
 have HR1 := Aside0.mk hr1
 have HC1 := Aside0.mk hc1
 clear hr1 hc1
 have HR3 := Aside0.mk hr3
 have HC3 := Aside0.mk hc3
 clear hr3 hc3
 have HB := Aside0.mk (Below.refl w.heap.size w)
 have H : (partitalaw25_laid.l0 k l0 l1 a2 l3 ([] : List (S38)) 0 0) = some (r1, r2) := h
 clear h
 have H' := Aside0.mk H
 clear H
 go_enter Tryd.func17, Tryd.ntmps17
 go_wp2
 go_loopg [10, 11, 12] k (fun kq v10 v11 v12 w' => ∃ (x10_1 : List (S38)) (x11_1 : Int) (x12_1 : Int), v11 = .int .i64 x11_1 ∧ v12 = .int .i64 x12_1 ∧ Aside0 (partitalaw25_laid.l0 kq l0 l1 a2 l3 x10_1 x11_1 x12_1 = some (r1, r2)) ∧ Aside0 (kq ≤ k) ∧ Aside0 (Kd.R k38 38 w' w.heap.size (fun _ => True) v10 x10_1) ∧ Aside0 (Below w.heap.size w w'))
 case atStart => exact ⟨(([] : List (S38))), (0), (0), (by first | rfl | (simp; done) | (simp [*]; done) | (simp [wrap64]; done)), (by first | rfl | (simp; done) | (simp [*]; done) | (simp [wrap64]; done)), H', ⟨Nat.le_refl _⟩, ⟨by first | exact Kd.R_nil _ _ _ _ _ | exact Kd.N_nil _ _ _ _ _ | exact Kd.V_nil _ _ _ _ _ | exact Kd.Q_nil _ _ _ _ _ | exact Kd.S_nil _ _ _ _ _⟩, ⟨by repeat (first | (with_reducible first | exact HB.out | apply below_alloc | apply pw_below_drewN | apply below_drew1) | exact HB.out)⟩⟩
 case round =>
  clear H'
  try clear c1
  try clear p2
  try clear c3
  obtain ⟨x10_1, x11_1, x12_1, rfl, rfl, HA, HK1, HO_10, HB⟩ := hrel
  cases gk with
  | zero => exact absurd HA.out (by simp [partitalaw25_laid.l0])
  | succ k1 =>
   have H := HA.out
   clear HA
   simp only [partitalaw25_laid.l0] at H
   by_cases c5 : x12_1 ≤ (l3.length : Int)
   · rw [if_pos c5] at H
     have c5b0 : decide (x12_1 ≤ (l3.length : Int)) = true := decide_eq_true c5
     clear c5
     have HC6 := Aside0.mk H
     clear H
     go_upto_if 30 with (fail)
     go_cut [13] (fun v13 wc => ∃ (kq : Nat) (x13_5 : Int), v13 = .int .i64 x13_5 ∧ Aside0 (partitalaw25_laid.j1 kq l0 l1 a2 l3 x10_1 x11_1 x12_1 x13_5 = some (r1, r2)) ∧ Aside0 (kq ≤ k1) ∧ Aside0 (Kd.R k38 38 wc w.heap.size (fun _ => True) u10 x10_1) ∧ Aside0 (Below w.heap.size w wc))
     case first =>
      have H := HC6.out
      clear HC6
      by_cases c7 : x12_1 < (l3.length : Int)
      · rw [if_pos c7] at H
        have c7b0 : decide (x12_1 < (l3.length : Int)) = true := decide_eq_true c7
        clear c7
        (first | rw [c7b0] | (simp only [i64_w, i32_w]; rw [c7b0]) | skip)
        by_cases c8 : 0 ≤ x12_1
        · rw [if_pos c8] at H
          have c8b0 : decide (0 ≤ x12_1) = true := decide_eq_true c8
          clear c8
          have H' := Aside0.mk H
          clear H
          have p212 : 0 ≤ (x12_1 : Int) := of_decide_eq_true (by first | (with_reducible assumption) | assumption)
          have q212 : x12_1 < (l3.length : Int) := of_decide_eq_true (by first | (with_reducible assumption) | assumption)
          obtain ⟨ad212, e212, hx212_0⟩ := Kd.at_int HR3.out x12_1 p212 q212
          cases e212
          replace hx212_0 := (HB.out.cell (World.block_lt_of_cell? w _ hx212_0)).trans hx212_0
          replace p212 := eq_true p212
          replace q212 := eq_true q212
          go_wp2
          go_meet
          case rel => exact ⟨_, (rd l3 x12_1), (by first | rfl | (simp; done) | (simp [*]; done) | (simp [wrap64]; done)), H', ⟨by have := HK1.out; first | omega | exact Nat.le_refl _⟩, ⟨by (with_reducible repeat (first | apply Kd.R_alloc | apply Kd.R_drewN | apply Kd.R_drew)); exact HO_10.out⟩, ⟨by repeat (first | (with_reducible first | exact HB.out | apply below_alloc | apply pw_below_drewN | apply below_drew1) | exact HB.out)⟩⟩
        · rw [if_neg c8] at H
          exact absurd H (by simp)
      · rw [if_neg c7] at H
        have c7b0 : decide (x12_1 < (l3.length : Int)) = false := decide_eq_false c7
        clear c7
        (first | rw [c7b0] | (simp only [i64_w, i32_w]; rw [c7b0]) | skip)
        have H' := Aside0.mk H
        clear H
        go_wp2
        go_meet
        case rel => exact ⟨_, ((l0.length : Int)), (by first | rfl | (simp; done) | (simp [*]; done) | (simp [wrap64]; done)), H', ⟨by have := HK1.out; first | omega | exact Nat.le_refl _⟩, ⟨by (with_reducible repeat (first | apply Kd.R_alloc | apply Kd.R_drewN | apply Kd.R_drew)); exact HO_10.out⟩, ⟨by repeat (first | (with_reducible first | exact HB.out | apply below_alloc | apply pw_below_drewN | apply below_drew1) | exact HB.out)⟩⟩
     case rest =>
      clear HC6
      try clear c1
      try clear p2
      try clear q2
      try clear hx2
      try clear c3
      try clear c5
      try clear c5b0
      try clear c7
      try clear c7b0
      try clear c8
      try clear c8b0
      try clear hx212_0
      try clear p2
      try clear p212
      try clear q212
      obtain ⟨kq, x13_5, rfl, HA, HJ5, HO_10, HB⟩ := hcut
      cases kq with
      | zero => exact absurd HA.out (by simp [partitalaw25_laid.j1])
      | succ kj5 =>
       have H := HA.out
       clear HA
       simp only [partitalaw25_laid.j1] at H
       have HC9 := Aside0.mk H
       clear H
       go_upto_region 9 with (fail)
       go_cut [43] (fun v43 wc => ∃ (kq : Nat) (x43_8 : Bool), v43 = .bool x43_8 ∧ Aside0 (partitalaw25_laid.j2 kq l0 l1 a2 l3 x10_1 x11_1 x12_1 x13_5 x43_8 = some (r1, r2)) ∧ Aside0 (kq ≤ kj5) ∧ Aside0 (Kd.R k38 38 wc w.heap.size (fun _ => True) u10 x10_1) ∧ Aside0 (Below w.heap.size w wc))
       case first =>
        have H := HC9.out
        clear HC9
        by_cases c10 : x13_5 ≤ x11_1
        · rw [if_pos c10] at H
          have c10b0 : decide (x13_5 ≤ x11_1) = true := decide_eq_true c10
          clear c10
          (first | rw [c10b0] | (simp only [i64_w, i32_w]; rw [c10b0]) | skip)
          have H' := Aside0.mk H
          clear H
          go_wp2
          go_meet
          case rel => exact ⟨_, (true), (by first | rfl | (simp; done) | (simp [*]; done) | (simp [wrap64]; done)), H', ⟨by have := HK1.out; have := HJ5.out; first | omega | exact Nat.le_refl _⟩, ⟨by (with_reducible repeat (first | apply Kd.R_alloc | apply Kd.R_drewN | apply Kd.R_drew)); exact HO_10.out⟩, ⟨by repeat (first | (with_reducible first | exact HB.out | apply below_alloc | apply pw_below_drewN | apply below_drew1) | exact HB.out)⟩⟩
        · rw [if_neg c10] at H
          have c10b0 : decide (x13_5 ≤ x11_1) = false := decide_eq_false c10
          clear c10
          (first | rw [c10b0] | (simp only [i64_w, i32_w]; rw [c10b0]) | skip)
          have H' := Aside0.mk H
          clear H
          go_wp2
          go_meet
          case rel => exact ⟨_, (decide (x13_5 > (l0.length : Int))), (by first | rfl | (simp; done) | (simp [*]; done) | (simp [wrap64]; done)), H', ⟨by have := HK1.out; have := HJ5.out; first | omega | exact Nat.le_refl _⟩, ⟨by (with_reducible repeat (first | apply Kd.R_alloc | apply Kd.R_drewN | apply Kd.R_drew)); exact HO_10.out⟩, ⟨by repeat (first | (with_reducible first | exact HB.out | apply below_alloc | apply pw_below_drewN | apply below_drew1) | exact HB.out)⟩⟩
       case rest =>
        clear HC9
        try clear c1
        try clear p2
        try clear q2
        try clear hx2
        try clear c3
        try clear c5
        try clear c5b0
        try clear c7
        try clear c7b0
        try clear c8
        try clear c8b0
        try clear c10
        try clear c10b0
        try clear hx212_0
        try clear p2
        try clear p212
        try clear q2
        try clear q212
        obtain ⟨kq, x43_8, rfl, HA, HJ8, HO_10, HB⟩ := hcut
        cases kq with
        | zero => exact absurd HA.out (by simp [partitalaw25_laid.j2])
        | succ kj8 =>
         have H := HA.out
         clear HA
         simp only [partitalaw25_laid.j2] at H
         by_cases c11 : x43_8 = true
         · subst c11
           have H1 : (some (([] : List (S38)), false)) = some (r1, r2) := by rw [if_pos rfl] at H; exact H
           clear H
           have H := H1
           clear H1
           simp only [Option.some.injEq, Prod.mk.injEq] at H
           obtain ⟨rfl, rfl⟩ := H
           go_wp2
           go_ret2
           exact ⟨_, by first | rfl | (simp [errW_none, errW_some] <;> rfl) | (simp [*, errW_none, errW_some] <;> rfl), by first | exact Kd.R_nil _ _ _ _ _ | exact Kd.N_nil _ _ _ _ _ | exact Kd.V_nil _ _ _ _ _ | exact Kd.Q_nil _ _ _ _ _ | exact Kd.S_nil _ _ _ _ _, by repeat (first | (with_reducible first | exact HB.out | apply below_alloc | apply pw_below_drewN | apply below_drew1) | exact HB.out)⟩
         · replace c11 := Bool.eq_false_iff.mpr c11
           subst c11
           have H1 : (partitalaw25_laid.l1 kj8 l0 l1 a2 l3 x10_1 x11_1 x12_1 x13_5 0 0 x11_1) = some (r1, r2) := by rw [if_neg (show ¬ (false = true) by decide)] at H; exact H
           clear H
           have H := H1
           clear H1
           have H' := Aside0.mk H
           clear H
           go_wp2
           go_loopg [14, 15, 16] kj8 (fun kq v14 v15 v16 w' => ∃ (x14_4 : Int) (x15_4 : Int) (x16_4 : Int), v14 = .int .i64 x14_4 ∧ v15 = .int .i64 x15_4 ∧ v16 = .int .i64 x16_4 ∧ Aside0 (partitalaw25_laid.l1 kq l0 l1 a2 l3 x10_1 x11_1 x12_1 x13_5 x14_4 x15_4 x16_4 = some (r1, r2)) ∧ Aside0 (kq ≤ kj8) ∧ Aside0 (Kd.R k38 38 w' w.heap.size (fun _ => True) u10 x10_1) ∧ Aside0 (Below w.heap.size w w'))
           case atStart => exact ⟨(0), (0), (x11_1), (by first | rfl | (simp; done) | (simp [*]; done) | (simp [wrap64]; done)), (by first | rfl | (simp; done) | (simp [*]; done) | (simp [wrap64]; done)), (by first | rfl | (simp; done) | (simp [*]; done) | (simp [wrap64]; done)), H', ⟨Nat.le_refl _⟩, ⟨by (with_reducible repeat (first | apply Kd.R_alloc | apply Kd.R_drewN | apply Kd.R_drew)); exact HO_10.out⟩, ⟨by repeat (first | (with_reducible first | exact HB.out | apply below_alloc | apply pw_below_drewN | apply below_drew1) | exact HB.out)⟩⟩
           case round =>
            clear H'
            try clear c1
            try clear p2
            try clear q2
            try clear hx2
            try clear c3
            try clear c5
            try clear c5b0
            try clear c7
            try clear c7b0
            try clear c8
            try clear c8b0
            try clear c10
            try clear c10b0
            try clear c11
            try clear hx212_0
            try clear p2
            try clear p212
            try clear q2
            try clear q212
            obtain ⟨x14_4, x15_4, x16_4, rfl, rfl, rfl, HA, HK4, HO_10, HB⟩ := hrel
            cases gk with
            | zero => exact absurd HA.out (by simp [partitalaw25_laid.l1])
            | succ k4 =>
             have H := HA.out
             clear HA
             simp only [partitalaw25_laid.l1] at H
             by_cases c12 : x16_4 < x13_5
             · rw [if_pos c12] at H
               have c12b0 : decide (x16_4 < x13_5) = true := decide_eq_true c12
               clear c12
               by_cases c13 : 0 ≤ x16_4
               · rw [if_pos c13] at H
                 have c13b0 : decide (0 ≤ x16_4) = true := decide_eq_true c13
                 clear c13
                 by_cases c14 : x16_4 < (l0.length : Int)
                 · rw [if_pos c14] at H
                   have c14b0 : decide (x16_4 < (l0.length : Int)) = true := decide_eq_true c14
                   clear c14
                   by_cases c15 : x16_4 < (l1.length : Int)
                   · rw [if_pos c15] at H
                     have c15b0 : decide (x16_4 < (l1.length : Int)) = true := decide_eq_true c15
                     clear c15
                     have H' := Aside0.mk H
                     clear H
                     have p213 : 0 ≤ (x16_4 : Int) := of_decide_eq_true (by first | (with_reducible assumption) | assumption)
                     have q213 : x16_4 < (l0.length : Int) := of_decide_eq_true (by first | (with_reducible assumption) | assumption)
                     obtain ⟨ad213, e213, hx213_0⟩ := Kd.at_int HR0.out x16_4 p213 q213
                     cases e213
                     replace hx213_0 := (HB.out.cell (World.block_lt_of_cell? w _ hx213_0)).trans hx213_0
                     replace p213 := eq_true p213
                     replace q213 := eq_true q213
                     have p214 : 0 ≤ (x16_4 : Int) := of_decide_eq_true (by first | (with_reducible assumption) | assumption)
                     have q214 : x16_4 < (l1.length : Int) := of_decide_eq_true (by first | (with_reducible assumption) | assumption)
                     obtain ⟨ad214, e214, hx214_0⟩ := Kd.at_int HR1.out x16_4 p214 q214
                     cases e214
                     replace hx214_0 := (HB.out.cell (World.block_lt_of_cell? w _ hx214_0)).trans hx214_0
                     replace p214 := eq_true p214
                     replace q214 := eq_true q214
                     go_wp2
                     go_roundg k4
                     case measure => have := HK1.out; have := HJ5.out; have := HJ8.out; have := HK4.out; omega
                     case rel => exact ⟨(wrap64 (x14_4 + (rd l0 x16_4))), (wrap64 (x15_4 + (rd l1 x16_4))), (wrap64 (x16_4 + 1)), (by first | rfl | (simp; done) | (simp [*]; done) | (simp [wrap64]; done)), (by first | rfl | (simp; done) | (simp [*]; done) | (simp [wrap64]; done)), (by first | rfl | (simp; done) | (simp [*]; done) | (simp [wrap64]; done)), H', ⟨by have := HK1.out; have := HJ5.out; have := HJ8.out; have := HK4.out; omega⟩, ⟨by (with_reducible repeat (first | apply Kd.R_alloc | apply Kd.R_drewN | apply Kd.R_drew)); exact HO_10.out⟩, ⟨by repeat (first | (with_reducible first | exact HB.out | apply below_alloc | apply pw_below_drewN | apply below_drew1) | exact HB.out)⟩⟩
                   · rw [if_neg c15] at H
                     exact absurd H (by simp)
                 · rw [if_neg c14] at H
                   exact absurd H (by simp)
               · rw [if_neg c13] at H
                 exact absurd H (by simp)
             · rw [if_neg c12] at H
               have c12b0 : decide (x16_4 < x13_5) = false := decide_eq_false c12
               clear c12
               replace H := Option.bind_eq_some_iff.mp H
               obtain ⟨⟨t215, t216⟩, A160, H⟩ := H
               replace H : (if t216 = true then (if x13_5 = (l0.length : Int) then (if x10_1.length < 5864062014805 then (partitalaw25_laid.l0 k4 l0 l1 a2 l3 (x10_1 ++ [(⟨x11_1, x13_5, 0⟩ : S38)]) x13_5 (wrap64 (x12_1 + 1))) else (none)) else (if x10_1.length < 5864062014805 then (partitalaw25_laid.l0 k4 l0 l1 a2 l3 (x10_1 ++ [(⟨x11_1, x13_5, t215⟩ : S38)]) x13_5 (wrap64 (x12_1 + 1))) else (none))) else (some (([] : List (S38)), false))) = some (r1, r2) := H
               have A16 := Aside0.mk A160
               clear A160
               by_cases c17 : t216 = true
               · subst c17
                 have H1 : (if x13_5 = (l0.length : Int) then (if x10_1.length < 5864062014805 then (partitalaw25_laid.l0 k4 l0 l1 a2 l3 (x10_1 ++ [(⟨x11_1, x13_5, 0⟩ : S38)]) x13_5 (wrap64 (x12_1 + 1))) else (none)) else (if x10_1.length < 5864062014805 then (partitalaw25_laid.l0 k4 l0 l1 a2 l3 (x10_1 ++ [(⟨x11_1, x13_5, t215⟩ : S38)]) x13_5 (wrap64 (x12_1 + 1))) else (none))) = some (r1, r2) := by rw [if_pos rfl] at H; exact H
                 clear H
                 have H := H1
                 clear H1
                 by_cases c18 : x13_5 = (l0.length : Int)
                 · rw [if_pos c18] at H
                   have c18b0 : (x13_5 == (l0.length : Int)) = true := beq_iff_eq.mpr c18
                   have c18b1 : (x13_5 != (l0.length : Int)) = false := bne_eq_false_iff_eq.mpr c18
                   clear c18
                   by_cases c19 : x10_1.length < 5864062014805
                   · rw [if_pos c19] at H
                     have LMc19 := Aside0.mk c19
                     clear c19
                     obtain ⟨y217, hy217⟩ : ∃ y_ : List (S38), y_ = (x10_1 ++ [(⟨x11_1, x13_5, 0⟩ : S38)]) := ⟨_, rfl⟩
                     replace H : (partitalaw25_laid.l0 k4 l0 l1 a2 l3 y217 x13_5 (wrap64 (x12_1 + 1))) = some (r1, r2) := by first | (rw [hy217]; with_reducible exact H) | (have H2_ := (Option.bind_some _ _).symm.trans H; rw [hy217]; with_reducible exact H2_) | (have H2_ := (Option.bind_some _ _).symm.trans H; with_reducible exact H2_) | with_reducible exact H | (rw [hy217]; exact H) | exact H
                     have Ny217 := Aside0.mk hy217
                     clear hy217
                     have H' := Aside0.mk H
                     clear H
                     go_wp2_with (first | ((with_reducible refine gate_callee (f := 12) rfl ?_); refine goesL_ (some 66) rfl rfl Tryd.func12 (by kernel_rfl) rfl #[.int .i64 x14_4, .int .i64 x15_4, .int .i64 a2] rfl (by (try simp only [List.map_toArray, List.map_cons, List.map_nil]); first | done | rfl | (simp only [List.length_drop, List.length_take]; rfl)) ?_; (with_reducible refine (systems_Cost.calls k4 x14_4 x15_4 a2 t215 true _ A16.out).mono ?_); rintro e w20 ⟨rfl, hb⟩; refine ⟨_, rfl, ?_⟩; have n0_ := Aside0.mk (Kd.R_below (qR HO_10.out) hb); have n1_ := Aside0.mk (below_step (by repeat (first | (with_reducible first | exact HB.out | apply below_alloc | apply pw_below_drewN | apply below_drew1) | exact HB.out)) hb); clear HO_10; clear HB; have HO_10 := n0_; have HB := n1_; clear n0_ n1_; (try clear hb); (try clear hb2); (try clear hk); (try clear hi)) | ((with_reducible refine gate_builtin (b := .append) (xs := #[.tmp 75, .tmp 80]) rfl ?_); (try (refine gate_guard (by rfl) ?_; dsimp only)); at_builtin; refine Kd.R_append k38 (w0 := w) w.heap.size rfl (.tmp 75) (.tmp 80) 27 38 (.agg #[(.int .i64 0), (.int .i64 0), (.int .i64 0)]) 24 rfl Tryd.underlying27 info38 rfl (by decide) (by omega) u10 x10_1 (⟨x11_1, x13_5, 0⟩ : S38) [.int .i64 x11_1, .int .i64 x13_5, .int .i64 0] (fun _ => True) (fun _ => False) rfl rfl ?aP (fun _ hk => hk.elim) ?aF ?aO ?aB ?aS ?aL ?_; (case aP => exact k38_mkM _ _ _ (⟨x11_1, x13_5, 0⟩ : S38)); (case aB => exact (by repeat (first | (with_reducible first | exact HB.out | apply below_alloc | apply pw_below_drewN | apply below_drew1) | exact HB.out))); (case aF => exact (fun _ _ => trivial)); (case aO => exact (qR HO_10.out)); (case aS => exact (below_size (by repeat (first | (with_reducible first | exact HB.out | apply below_alloc | apply pw_below_drewN | apply below_drew1) | exact HB.out)))); (case aL => have := LMc19.out; omega); intro v218 w21 ho hb hg hat; rw [← Ny217.out] at ho; have n0_ := Aside0.mk (hb); have n1_ := Aside0.mk (ho); clear HB; clear HO_10; have HB := n0_; have HO219 := n1_; clear n0_ n1_; clear ho hb hg hat))
                     go_roundg k4
                     case measure => have := HK1.out; have := HJ5.out; have := HJ8.out; have := HK4.out; omega
                     case rel => exact ⟨(y217), (x13_5), (wrap64 (x12_1 + 1)), (by first | rfl | (simp; done) | (simp [*]; done) | (simp [wrap64]; done)), (by first | rfl | (simp; done) | (simp [*]; done) | (simp [wrap64]; done)), H', ⟨by have := HK1.out; have := HJ5.out; have := HJ8.out; have := HK4.out; omega⟩, ⟨by (with_reducible repeat (first | apply Kd.R_alloc | apply Kd.R_drewN | apply Kd.R_drew)); exact HO219.out⟩, ⟨by repeat (first | (with_reducible first | exact HB.out | apply below_alloc | apply pw_below_drewN | apply below_drew1) | exact HB.out)⟩⟩
                   · rw [if_neg c19] at H
                     exact absurd H (by simp)
                 · rw [if_neg c18] at H
                   have c18b0 : (x13_5 == (l0.length : Int)) = false := beq_eq_false_iff_ne.mpr c18
                   have c18b1 : (x13_5 != (l0.length : Int)) = true := bne_iff_ne.mpr c18
                   by_cases c22 : x10_1.length < 5864062014805
                   · rw [if_pos c22] at H
                     have LMc22 := Aside0.mk c22
                     clear c22
                     obtain ⟨y220, hy220⟩ : ∃ y_ : List (S38), y_ = (x10_1 ++ [(⟨x11_1, x13_5, t215⟩ : S38)]) := ⟨_, rfl⟩
                     replace H : (partitalaw25_laid.l0 k4 l0 l1 a2 l3 y220 x13_5 (wrap64 (x12_1 + 1))) = some (r1, r2) := by first | (rw [hy220]; with_reducible exact H) | (have H2_ := (Option.bind_some _ _).symm.trans H; rw [hy220]; with_reducible exact H2_) | (have H2_ := (Option.bind_some _ _).symm.trans H; with_reducible exact H2_) | with_reducible exact H | (rw [hy220]; exact H) | exact H
                     have Ny220 := Aside0.mk hy220
                     clear hy220
                     have H' := Aside0.mk H
                     clear H
                     go_wp2_with (first | ((with_reducible refine gate_callee (f := 12) rfl ?_); refine goesL_ (some 66) rfl rfl Tryd.func12 (by kernel_rfl) rfl #[.int .i64 x14_4, .int .i64 x15_4, .int .i64 a2] rfl (by (try simp only [List.map_toArray, List.map_cons, List.map_nil]); first | done | rfl | (simp only [List.length_drop, List.length_take]; rfl)) ?_; (with_reducible refine (systems_Cost.calls k4 x14_4 x15_4 a2 t215 true _ A16.out).mono ?_); rintro e w23 ⟨rfl, hb⟩; refine ⟨_, rfl, ?_⟩; have n0_ := Aside0.mk (Kd.R_below (qR HO_10.out) hb); have n1_ := Aside0.mk (below_step (by repeat (first | (with_reducible first | exact HB.out | apply below_alloc | apply pw_below_drewN | apply below_drew1) | exact HB.out)) hb); clear HO_10; clear HB; have HO_10 := n0_; have HB := n1_; clear n0_ n1_; (try clear hb); (try clear hb2); (try clear hk); (try clear hi)) | ((with_reducible refine gate_builtin (b := .append) (xs := #[.tmp 75, .tmp 80]) rfl ?_); (try (refine gate_guard (by rfl) ?_; dsimp only)); at_builtin; refine Kd.R_append k38 (w0 := w) w.heap.size rfl (.tmp 75) (.tmp 80) 27 38 (.agg #[(.int .i64 0), (.int .i64 0), (.int .i64 0)]) 24 rfl Tryd.underlying27 info38 rfl (by decide) (by omega) u10 x10_1 (⟨x11_1, x13_5, t215⟩ : S38) [.int .i64 x11_1, .int .i64 x13_5, .int .i64 t215] (fun _ => True) (fun _ => False) rfl rfl ?aP (fun _ hk => hk.elim) ?aF ?aO ?aB ?aS ?aL ?_; (case aP => exact k38_mkM _ _ _ (⟨x11_1, x13_5, t215⟩ : S38)); (case aB => exact (by repeat (first | (with_reducible first | exact HB.out | apply below_alloc | apply pw_below_drewN | apply below_drew1) | exact HB.out))); (case aF => exact (fun _ _ => trivial)); (case aO => exact (qR HO_10.out)); (case aS => exact (below_size (by repeat (first | (with_reducible first | exact HB.out | apply below_alloc | apply pw_below_drewN | apply below_drew1) | exact HB.out)))); (case aL => have := LMc22.out; omega); intro v221 w24 ho hb hg hat; rw [← Ny220.out] at ho; have n0_ := Aside0.mk (hb); have n1_ := Aside0.mk (ho); clear HB; clear HO_10; have HB := n0_; have HO222 := n1_; clear n0_ n1_; clear ho hb hg hat))
                     go_roundg k4
                     case measure => have := HK1.out; have := HJ5.out; have := HJ8.out; have := HK4.out; omega
                     case rel => exact ⟨(y220), (x13_5), (wrap64 (x12_1 + 1)), (by first | rfl | (simp; done) | (simp [*]; done) | (simp [wrap64]; done)), (by first | rfl | (simp; done) | (simp [*]; done) | (simp [wrap64]; done)), H', ⟨by have := HK1.out; have := HJ5.out; have := HJ8.out; have := HK4.out; omega⟩, ⟨by (with_reducible repeat (first | apply Kd.R_alloc | apply Kd.R_drewN | apply Kd.R_drew)); exact HO222.out⟩, ⟨by repeat (first | (with_reducible first | exact HB.out | apply below_alloc | apply pw_below_drewN | apply below_drew1) | exact HB.out)⟩⟩
                   · rw [if_neg c22] at H
                     exact absurd H (by simp)
               · replace c17 := Bool.eq_false_iff.mpr c17
                 subst c17
                 have H1 : (some (([] : List (S38)), false)) = some (r1, r2) := by rw [if_neg (show ¬ (false = true) by decide)] at H; exact H
                 clear H
                 have H := H1
                 clear H1
                 simp only [Option.some.injEq, Prod.mk.injEq] at H
                 obtain ⟨rfl, rfl⟩ := H
                 go_wp2_with (first | ((with_reducible refine gate_callee (f := 12) rfl ?_); refine goesL_ (some 66) rfl rfl Tryd.func12 (by kernel_rfl) rfl #[.int .i64 x14_4, .int .i64 x15_4, .int .i64 a2] rfl (by (try simp only [List.map_toArray, List.map_cons, List.map_nil]); first | done | rfl | (simp only [List.length_drop, List.length_take]; rfl)) ?_; (with_reducible refine (systems_Cost.calls k4 x14_4 x15_4 a2 t215 false _ A16.out).mono ?_); rintro e w25 ⟨rfl, hb⟩; refine ⟨_, rfl, ?_⟩; have n0_ := Aside0.mk (Kd.R_below (qR HO_10.out) hb); have n1_ := Aside0.mk (below_step (by repeat (first | (with_reducible first | exact HB.out | apply below_alloc | apply pw_below_drewN | apply below_drew1) | exact HB.out)) hb); clear HO_10; clear HB; have HO_10 := n0_; have HB := n1_; clear n0_ n1_; (try clear hb); (try clear hb2); (try clear hk); (try clear hi)))
                 go_ret2
                 exact ⟨_, by first | rfl | (simp [errW_none, errW_some] <;> rfl) | (simp [*, errW_none, errW_some] <;> rfl), by first | exact Kd.R_nil _ _ _ _ _ | exact Kd.N_nil _ _ _ _ _ | exact Kd.V_nil _ _ _ _ _ | exact Kd.Q_nil _ _ _ _ _ | exact Kd.S_nil _ _ _ _ _, by repeat (first | (with_reducible first | exact HB.out | apply below_alloc | apply pw_below_drewN | apply below_drew1) | exact HB.out)⟩
   · rw [if_neg c5] at H
     have c5b0 : decide (x12_1 ≤ (l3.length : Int)) = false := decide_eq_false c5
     clear c5
     simp only [Option.some.injEq, Prod.mk.injEq] at H
     obtain ⟨rfl, rfl⟩ := H
     go_wp2
     go_ret2
     exact ⟨_, by first | rfl | (simp [errW_none, errW_some] <;> rfl) | (simp [*, errW_none, errW_some] <;> rfl), by (with_reducible repeat (first | apply Kd.R_alloc | apply Kd.R_drewN | apply Kd.R_drew)); exact HO_10.out, by repeat (first | (with_reducible first | exact HB.out | apply below_alloc | apply pw_below_drewN | apply below_drew1) | exact HB.out)⟩

/-! ### partitaref25_Total: function 18 -/
def partitaref25_Total.l0 : Nat → List (S38) → Int → Int → Option (Int)
 | 0, _, _, _ => none
 | k + 1, x0, x3, x4 => if x4 < (x0.length : Int) then (if 0 ≤ x4 then (partitaref25_Total.l0 k x0 (wrap64 ((wrap64 (x3 + ((rd_T38 x0 x4).f2))) + 10)) (wrap64 (x4 + 1))) else (none)) else (some x3)
def partitaref25_Total.f (k : Nat) (l0 : List (S38)) : Option (Int) := partitaref25_Total.l0 k l0 0 0
theorem partitaref25_Total.mono_l : ∀ k, (∀ y0 y1 y2, LeO (partitaref25_Total.l0 k y0 y1 y2) (partitaref25_Total.l0 (k + 1) y0 y1 y2))
 | 0 => fun _ _ _ r h => by simp [partitaref25_Total.l0] at h
 | k + 1 => by
  have ih0 := partitaref25_Total.mono_l k
  · intro y0 y1 y2
    unfold partitaref25_Total.l0
    repeat' first
    | (with_reducible exact ih0 _ _ _)
    | (with_reducible exact LeO.refl _)
    | (with_reducible exact LeO.none _)
    | (with_reducible refine LeO.ite ?_ ?_)
    | (with_reducible refine LeO.bind ?_ (fun _ => ?_))
    | exact ih0 _ _ _
    | exact LeO.none _
    | refine LeO.ite ?_ ?_
    | refine LeO.bind ?_ (fun _ => ?_)
theorem partitaref25_Total.mono : ∀ a0 k, LeO (partitaref25_Total.f k a0) (partitaref25_Total.f (k + 1) a0) := by
 intro a0 k
 have ih0 := partitaref25_Total.mono_l k
 unfold partitaref25_Total.f
 repeat' first
  | (with_reducible exact ih0 _ _ _)
  | (with_reducible exact LeO.refl _)
  | (with_reducible exact LeO.none _)
  | (with_reducible refine LeO.ite ?_ ?_)
  | (with_reducible refine LeO.bind ?_ (fun _ => ?_))
  | exact ih0 _ _ _
  | exact LeO.none _
  | refine LeO.ite ?_ ?_
  | refine LeO.bind ?_ (fun _ => ?_)
set_option maxHeartbeats 8000000 in
set_option maxRecDepth 100000 in
theorem partitaref25_Total.calls (k : Nat) (A0 : Option Addr) (c0 : Nat) (l0 : List (S38)) (r : Int) (w : World) (hr0 : Kd.C k38 w A0 l0.length l0) (hc0 : l0.length ≤ c0) (h : partitaref25_Total.f k l0 = some r) :
 Calls Tryd.prog 18 #[.slice A0 l0.length c0] w fun e w' => e = .returned (.int .i64 r) ∧ Drawn0 w w' := by
 have HR0 := Aside0.mk hr0
 have HC0 := Aside0.mk hc0
 clear hr0 hc0
 have H : (partitaref25_Total.l0 k l0 0 0) = some r := h
 clear h
 have H' := Aside0.mk H
 clear H
 go_enter Tryd.func18, Tryd.ntmps18
 go_wp2
 go_loopg [3, 4] k (fun kq v3 v4 w' => ∃ (x3_1 : Int) (x4_1 : Int), v3 = .int .i64 x3_1 ∧ v4 = .int .i64 x4_1 ∧ Aside0 (partitaref25_Total.l0 kq l0 x3_1 x4_1 = some r) ∧ Aside0 (kq ≤ k) ∧ Drawn0 w w')
 case atStart => exact ⟨(0), (0), (by first | rfl | (simp; done) | (simp [*]; done) | (simp [wrap64]; done)), (by first | rfl | (simp; done) | (simp [*]; done) | (simp [wrap64]; done)), H', ⟨Nat.le_refl _⟩, by repeat (first | exact Drawn0.refl _ | apply Drawn0.step)⟩
 case round =>
  clear H'
  try clear c1
  obtain ⟨x3_1, x4_1, rfl, rfl, HA, HK1, ⟨m1, rfl⟩⟩ := hrel
  cases gk with
  | zero => exact absurd HA.out (by simp [partitaref25_Total.l0])
  | succ k1 =>
   have H := HA.out
   clear HA
   simp only [partitaref25_Total.l0] at H
   by_cases c2 : x4_1 < (l0.length : Int)
   · rw [if_pos c2] at H
     have c2b0 : decide (x4_1 < (l0.length : Int)) = true := decide_eq_true c2
     clear c2
     by_cases c3 : 0 ≤ x4_1
     · rw [if_pos c3] at H
       have c3b0 : decide (0 ≤ x4_1) = true := decide_eq_true c3
       clear c3
       have H' := Aside0.mk H
       clear H
       have p223 : 0 ≤ (x4_1 : Int) := of_decide_eq_true (by first | (with_reducible assumption) | assumption)
       have q223 : x4_1 < (l0.length : Int) := of_decide_eq_true (by first | (with_reducible assumption) | assumption)
       obtain ⟨ad223, e223, hx223_0, hx223_1, hx223_2⟩ := at_T38 HR0.out x4_1 p223 q223
       cases e223
       replace p223 := eq_true p223
       replace q223 := eq_true q223
       go_wp2
       go_roundg k1
       case measure => have := HK1.out; omega
       case rel => exact ⟨(wrap64 ((wrap64 (x3_1 + ((rd_T38 l0 x4_1).f2))) + 10)), (wrap64 (x4_1 + 1)), (by first | rfl | (simp; done) | (simp [*]; done) | (simp [wrap64]; done)), (by first | rfl | (simp; done) | (simp [*]; done) | (simp [wrap64]; done)), H', ⟨by have := HK1.out; omega⟩, by repeat (first | exact Drawn0.refl _ | apply Drawn0.step)⟩
     · rw [if_neg c3] at H
       exact absurd H (by simp)
   · rw [if_neg c2] at H
     have c2b0 : decide (x4_1 < (l0.length : Int)) = false := decide_eq_false c2
     clear c2
     obtain rfl := Option.some.inj H
     go_wp2
     go_ret
     exact ⟨by first | rfl | (simp; done) | (simp [*]; done), by repeat (first | exact Drawn0.refl _ | apply Drawn0.step)⟩

end Go.Proofs.YtneaoicjbiebkaaDoor.Q
