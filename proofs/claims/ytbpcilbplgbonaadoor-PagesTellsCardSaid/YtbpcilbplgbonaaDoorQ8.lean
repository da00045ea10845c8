-- Written by a program of this session (myprint.py), function by function.
import Derived.Test.YtbpcilbplgbonaaDoorQ0
import Derived.Test.YtbpcilbplgbonaaDoorQ7
namespace Go.Proofs.YtbpcilbplgbonaaDoor.Q
open Go.RowKit Go.Proofs.YtbpcilbplgbonaaDoorW.PrintWords Go.Proofs.YtbpcilbplgbonaaDoorW.PrintLast Go.Proofs.YtbpcilbplgbonaaDoorW.PrintMore
attribute [local go_sem] max2_int min2_int max_two min_two max_three min_three max_four min_four   -- for this text's walks alone
set_option linter.unusedVariables false
set_option linter.unusedSimpArgs false

/-! ### partitaref26_Break: function 13 -/
mutual
def partitaref26_Break.l0 : Nat → List Int → Int → Int → Int → Int → Option ((List (S37)) × Int)
 | 0, _, _, _, _, _ => none
 | k + 1, x0, x1, x2, x8, x9 => if x9 < x8 then (if 0 ≤ x9 then (if x9 < (x0.length : Int) then (if (rd x0 x9) > x1 then (some (([] : List (S37)), 260)) else (partitaref26_Break.l0 k x0 x1 x2 x8 (wrap64 (x9 + 1)))) else (none)) else (none)) else (if 0 ≤ (wrap64 (x8 + 1)) then (if (wrap64 (x8 + 1) : Int).toNat ≤ 35184372088832 then (partitaref26_Break.l1 k x0 x1 x2 x8 (List.replicate (wrap64 (x8 + 1) : Int).toNat 0) (List.replicate (wrap64 (x8 + 1) : Int).toNat 0) (wrap64 (x8 - 1))) else (none)) else (none))
def partitaref26_Break.l1 : Nat → List Int → Int → Int → Int → List Int → List Int → Int → Option ((List (S37)) × Int)
 | 0, _, _, _, _, _, _, _ => none
 | k + 1, x0, x1, x2, x8, x10, x11, x12 => if x12 ≥ 0 then (partitaref26_Break.l2 k x0 x1 x2 x8 x10 x11 x12 (wrap64 (x12 + 1))) else (partitaref26_Break.l3 k x0 x1 x2 x8 x11 ([] : List (S37)) 0)
def partitaref26_Break.l2 : Nat → List Int → Int → Int → Int → List Int → List Int → Int → Int → Option ((List (S37)) × Int)
 | 0, _, _, _, _, _, _, _, _ => none
 | k + 1, x0, x1, x2, x8, x10, x11, x12, x13 => if x13 ≤ x8 then ((partitaref26_rest.f k x0 x1 x2 x12 x13).bind fun t202 => (if t202 < 0 then (partitaref26_Break.l1 k x0 x1 x2 x8 x10 x11 (wrap64 (x12 - 1))) else (if x13 = x8 then (if 0 ≤ x13 then (if x13 < (x10.length : Int) then (if 0 ≤ x12 then (if x12 < (x11.length : Int) then (if (rd x11 x12) = 0 then (if x12 < (x10.length : Int) then (partitaref26_Break.l2 k x0 x1 x2 x8 (x10.set (x12 : Int).toNat (wrap64 ((0 * 0) + (rd x10 x13)))) (x11.set (x12 : Int).toNat x13) x12 (wrap64 (x13 + 1))) else (none)) else (if x12 < (x10.length : Int) then (if (wrap64 ((0 * 0) + (rd x10 x13))) ≤ (rd x10 x12) then (partitaref26_Break.l2 k x0 x1 x2 x8 (x10.set (x12 : Int).toNat (wrap64 ((0 * 0) + (rd x10 x13)))) (x11.set (x12 : Int).toNat x13) x12 (wrap64 (x13 + 1))) else (partitaref26_Break.l2 k x0 x1 x2 x8 x10 x11 x12 (wrap64 (x13 + 1)))) else (none))) else (none)) else (none)) else (none)) else (none)) else (if 0 ≤ x13 then (if x13 < (x10.length : Int) then (if 0 ≤ x12 then (if x12 < (x11.length : Int) then (if (rd x11 x12) = 0 then (if x12 < (x10.length : Int) then (partitaref26_Break.l2 k x0 x1 x2 x8 (x10.set (x12 : Int).toNat (wrap64 ((wrap64 (t202 * t202)) + (rd x10 x13)))) (x11.set (x12 : Int).toNat x13) x12 (wrap64 (x13 + 1))) else (none)) else (if x12 < (x10.length : Int) then (if (wrap64 ((wrap64 (t202 * t202)) + (rd x10 x13))) ≤ (rd x10 x12) then (partitaref26_Break.l2 k x0 x1 x2 x8 (x10.set (x12 : Int).toNat (wrap64 ((wrap64 (t202 * t202)) + (rd x10 x13)))) (x11.set (x12 : Int).toNat x13) x12 (wrap64 (x13 + 1))) else (partitaref26_Break.l2 k x0 x1 x2 x8 x10 x11 x12 (wrap64 (x13 + 1)))) else (none))) else (none)) else (none)) else (none)) else (none))))) else (partitaref26_Break.l1 k x0 x1 x2 x8 x10 x11 (wrap64 (x12 - 1)))
def partitaref26_Break.l3 : Nat → List Int → Int → Int → Int → List Int → List (S37) → Int → Option ((List (S37)) × Int)
 | 0, _, _, _, _, _, _, _ => none
 | k + 1, x0, x1, x2, x8, x11, x16, x17 => if x17 < x8 then (if 0 ≤ x17 then (if x17 < (x11.length : Int) then ((partitaref26_rest.f k x0 x1 x2 x17 (rd x11 x17)).bind fun t218 => (if (rd x11 x17) = x8 then ((partitaref26_tops.f k x0 x2 x17 (rd x11 x17) 0).bind fun t222 => (if x16.length < 3518437208883 then (partitaref26_Break.l3 k x0 x1 x2 x8 x11 (x16 ++ [(⟨x17, rd x11 x17, t222⟩ : S37)]) (rd x11 x17)) else (none))) else ((partitaref26_tops.f k x0 x2 x17 (rd x11 x17) t218).bind fun t231 => (if x16.length < 3518437208883 then (partitaref26_Break.l3 k x0 x1 x2 x8 x11 (x16 ++ [(⟨x17, rd x11 x17, t231⟩ : S37)]) (rd x11 x17)) else (none))))) else (none)) else (none)) else (some (x16, 0))
end
def partitaref26_Break.f (k : Nat) (l0 : List Int) (a1 : Int) (a2 : Int) : Option ((List (S37)) × Int) := (partitaref26_lay.f k l0 a1 a2).bind fun t194 => (if t194 = true then (partitaref26_Break.l0 k l0 a1 a2 (l0.length : Int) 0) else (some (([] : List (S37)), 2)))
theorem partitaref26_Break.mono_l : ∀ k, (∀ y0 y1 y2 y3 y4, LeO (partitaref26_Break.l0 k y0 y1 y2 y3 y4) (partitaref26_Break.l0 (k + 1) y0 y1 y2 y3 y4)) ∧ (∀ y0 y1 y2 y3 y4 y5 y6, LeO (partitaref26_Break.l1 k y0 y1 y2 y3 y4 y5 y6) (partitaref26_Break.l1 (k + 1) y0 y1 y2 y3 y4 y5 y6)) ∧ (∀ y0 y1 y2 y3 y4 y5 y6 y7, LeO (partitaref26_Break.l2 k y0 y1 y2 y3 y4 y5 y6 y7) (partitaref26_Break.l2 (k + 1) y0 y1 y2 y3 y4 y5 y6 y7)) ∧ (∀ y0 y1 y2 y3 y4 y5 y6, LeO (partitaref26_Break.l3 k y0 y1 y2 y3 y4 y5 y6) (partitaref26_Break.l3 (k + 1) y0 y1 y2 y3 y4 y5 y6))
 | 0 => ⟨fun _ _ _ _ _ r h => by simp [partitaref26_Break.l0] at h, fun _ _ _ _ _ _ _ r h => by simp [partitaref26_Break.l1] at h, fun _ _ _ _ _ _ _ _ r h => by simp [partitaref26_Break.l2] at h, fun _ _ _ _ _ _ _ r h => by simp [partitaref26_Break.l3] at h⟩
 | k + 1 => by
  obtain ⟨ih0, ih1, ih2, ih3⟩ := partitaref26_Break.mono_l k
  refine ⟨?_, ?_, ?_, ?_⟩
  · intro y0 y1 y2 y3 y4
    unfold partitaref26_Break.l0
    repeat' first
    | (with_reducible exact ih0 _ _ _ _ _)
    | (with_reducible exact ih1 _ _ _ _ _ _ _)
    | (with_reducible exact ih2 _ _ _ _ _ _ _ _)
    | (with_reducible exact ih3 _ _ _ _ _ _ _)
    | (with_reducible exact partitaref26_lay.mono _ _ _ _)
    | (with_reducible exact partitaref26_rest.mono _ _ _ _ _ _)
    | (with_reducible exact partitaref26_tops.mono _ _ _ _ _ _)
    | (with_reducible exact LeO.refl _)
    | (with_reducible exact LeO.none _)
    | (with_reducible refine LeO.ite ?_ ?_)
    | (with_reducible refine LeO.bind ?_ (fun _ => ?_))
    | exact ih0 _ _ _ _ _
    | exact ih1 _ _ _ _ _ _ _
    | exact ih2 _ _ _ _ _ _ _ _
    | exact ih3 _ _ _ _ _ _ _
    | exact partitaref26_lay.mono _ _ _ _
    | exact partitaref26_rest.mono _ _ _ _ _ _
    | exact partitaref26_tops.mono _ _ _ _ _ _
    | exact LeO.none _
    | refine LeO.ite ?_ ?_
    | refine LeO.bind ?_ (fun _ => ?_)
  · intro y0 y1 y2 y3 y4 y5 y6
    unfold partitaref26_Break.l1
    repeat' first
    | (with_reducible exact ih0 _ _ _ _ _)
    | (with_reducible exact ih1 _ _ _ _ _ _ _)
    | (with_reducible exact ih2 _ _ _ _ _ _ _ _)
    | (with_reducible exact ih3 _ _ _ _ _ _ _)
    | (with_reducible exact partitaref26_lay.mono _ _ _ _)
    | (with_reducible exact partitaref26_rest.mono _ _ _ _ _ _)
    | (with_reducible exact partitaref26_tops.mono _ _ _ _ _ _)
    | (with_reducible exact LeO.refl _)
    | (with_reducible exact LeO.none _)
    | (with_reducible refine LeO.ite ?_ ?_)
    | (with_reducible refine LeO.bind ?_ (fun _ => ?_))
    | exact ih0 _ _ _ _ _
    | exact ih1 _ _ _ _ _ _ _
    | exact ih2 _ _ _ _ _ _ _ _
    | exact ih3 _ _ _ _ _ _ _
    | exact partitaref26_lay.mono _ _ _ _
    | exact partitaref26_rest.mono _ _ _ _ _ _
    | exact partitaref26_tops.mono _ _ _ _ _ _
    | exact LeO.none _
    | refine LeO.ite ?_ ?_
    | refine LeO.bind ?_ (fun _ => ?_)
  · intro y0 y1 y2 y3 y4 y5 y6 y7
    unfold partitaref26_Break.l2
    repeat' first
    | (with_reducible exact ih0 _ _ _ _ _)
    | (with_reducible exact ih1 _ _ _ _ _ _ _)
    | (with_reducible exact ih2 _ _ _ _ _ _ _ _)
    | (with_reducible exact ih3 _ _ _ _ _ _ _)
    | (with_reducible exact partitaref26_lay.mono _ _ _ _)
    | (with_reducible exact partitaref26_rest.mono _ _ _ _ _ _)
    | (with_reducible exact partitaref26_tops.mono _ _ _ _ _ _)
    | (with_reducible exact LeO.refl _)
    | (with_reducible exact LeO.none _)
    | (with_reducible refine LeO.ite ?_ ?_)
    | (with_reducible refine LeO.bind ?_ (fun _ => ?_))
    | exact ih0 _ _ _ _ _
    | exact ih1 _ _ _ _ _ _ _
    | exact ih2 _ _ _ _ _ _ _ _
    | exact ih3 _ _ _ _ _ _ _
    | exact partitaref26_lay.mono _ _ _ _
    | exact partitaref26_rest.mono _ _ _ _ _ _
    | exact partitaref26_tops.mono _ _ _ _ _ _
    | exact LeO.none _
    | refine LeO.ite ?_ ?_
    | refine LeO.bind ?_ (fun _ => ?_)
  · intro y0 y1 y2 y3 y4 y5 y6
    unfold partitaref26_Break.l3
    repeat' first
    | (with_reducible exact ih0 _ _ _ _ _)
    | (with_reducible exact ih1 _ _ _ _ _ _ _)
    | (with_reducible exact ih2 _ _ _ _ _ _ _ _)
    | (with_reducible exact ih3 _ _ _ _ _ _ _)
    | (with_reducible exact partitaref26_lay.mono _ _ _ _)
    | (with_reducible exact partitaref26_rest.mono _ _ _ _ _ _)
    | (with_reducible exact partitaref26_tops.mono _ _ _ _ _ _)
    | (with_reducible exact LeO.refl _)
    | (with_reducible exact LeO.none _)
    | (with_reducible refine LeO.ite ?_ ?_)
    | (with_reducible refine LeO.bind ?_ (fun _ => ?_))
    | exact ih0 _ _ _ _ _
    | exact ih1 _ _ _ _ _ _ _
    | exact ih2 _ _ _ _ _ _ _ _
    | exact ih3 _ _ _ _ _ _ _
    | exact partitaref26_lay.mono _ _ _ _
    | exact partitaref26_rest.mono _ _ _ _ _ _
    | exact partitaref26_tops.mono _ _ _ _ _ _
    | exact LeO.none _
    | refine LeO.ite ?_ ?_
    | refine LeO.bind ?_ (fun _ => ?_)
theorem partitaref26_Break.mono : ∀ a0 a1 a2 k, LeO (partitaref26_Break.f k a0 a1 a2) (partitaref26_Break.f (k + 1) a0 a1 a2) := by
 intro a0 a1 a2 k
 obtain ⟨ih0, ih1, ih2, ih3⟩ := partitaref26_Break.mono_l k
 unfold partitaref26_Break.f
 repeat' first
  | (with_reducible exact ih0 _ _ _ _ _)
  | (with_reducible exact ih1 _ _ _ _ _ _ _)
  | (with_reducible exact ih2 _ _ _ _ _ _ _ _)
  | (with_reducible exact ih3 _ _ _ _ _ _ _)
  | (with_reducible exact partitaref26_lay.mono _ _ _ _)
  | (with_reducible exact partitaref26_rest.mono _ _ _ _ _ _)
  | (with_reducible exact partitaref26_tops.mono _ _ _ _ _ _)
  | (with_reducible exact LeO.refl _)
  | (with_reducible exact LeO.none _)
  | (with_reducible refine LeO.ite ?_ ?_)
  | (with_reducible refine LeO.bind ?_ (fun _ => ?_))
  | exact ih0 _ _ _ _ _
  | exact ih1 _ _ _ _ _ _ _
  | exact ih2 _ _ _ _ _ _ _ _
  | exact ih3 _ _ _ _ _ _ _
  | exact partitaref26_lay.mono _ _ _ _
  | exact partitaref26_rest.mono _ _ _ _ _ _
  | exact partitaref26_tops.mono _ _ _ _ _ _
  | exact LeO.none _
  | refine LeO.ite ?_ ?_
  | refine LeO.bind ?_ (fun _ => ?_)
def partitaref26_Break.T32 : Bool × List (List Nat × List Nat) := (true, [([], []), ([], []), ([], []), ([], []), ([2, 3], [2, 3]), ([4], [4]), ([], []), ([], []), ([], []), ([], []), ([], []), ([9, 10], [9, 10]), ([11], [11]), ([], []), ([6, 7, 8, 12, 13], [6, 7, 8, 12, 13]), ([1, 5, 14], [1, 5, 14]), ([15], [15]), ([0, 16, 14], [0, 16]), ([17, 17, 0, 1, 2, 3, 4, 5, 6, 7, 8, 9, 10, 11, 12, 13, 14, 15, 16, 17], [0, 17])])
def partitaref26_Break.B32 : List Nat := [0, 0, 0, 0, 12, 28, 0, 0, 0, 0, 0, 1536, 3584, 0, 16320, 32766, 65534, 131071, 262143]
theorem partitaref26_Break.tab32 : rtab .any (opsOf Tryd.f13 32) = partitaref26_Break.T32 := by kernel_rfl
theorem partitaref26_Break.bits32 : waitsOk partitaref26_Break.T32.2 partitaref26_Break.B32 = true := by kernel_rfl
set_option maxHeartbeats 8000000 in
set_option maxRecDepth 100000 in
theorem partitaref26_Break.calls (k : Nat) (A0 : Option Addr) (c0 : Nat) (l0 : List Int) (a1 : Int) (a2 : Int) (r1 : List (S37)) (r2 : Int) (w : World) (hr0 : Kd.C (Kd.int .i64) w A0 l0.length l0) (hc0 : l0.length ≤ c0) (h : partitaref26_Break.f k l0 a1 a2 = some (r1, r2)) :
 Calls Tryd.prog 13 #[.slice A0 l0.length c0, .int .i64 a1, .int .i64 a2] w fun e w' => ∃ v0_ : Value, e = .returned (.tuple #[v0_, .int .i64 r2]) ∧ Kd.S k37 37 w' w.heap.size (fun _ => True) v0_ r1 ∧ Below w.heap.size w w' := by
 have hu37 := Tryd.underlying37
 have HR0 := Aside0.mk hr0
 have HC0 := Aside0.mk hc0
 clear hr0 hc0
 have HB := Aside0.mk (Below.refl w.heap.size w)
 have H : ((partitaref26_lay.f k l0 a1 a2).bind fun t194 => (if t194 = true then (partitaref26_Break.l0 k l0 a1 a2 (l0.length : Int) 0) else (some (([] : List (S37)), 2)))) = some (r1, r2) := h
 clear h
 replace H := Option.bind_eq_some_iff.mp H
 obtain ⟨t194, A40, H⟩ := H
 replace H : (if t194 = true then (partitaref26_Break.l0 k l0 a1 a2 (l0.length : Int) 0) else (some (([] : List (S37)), 2))) = some (r1, r2) := H
 have A4 := Aside0.mk A40
 clear A40
 by_cases c5 : t194 = true
 · subst c5
   have H1 : (partitaref26_Break.l0 k l0 a1 a2 (l0.length : Int) 0) = some (r1, r2) := by rw [if_pos rfl] at H; exact H
   clear H
   have H := H1
   clear H1
   have H' := Aside0.mk H
   clear H
   go_enter Tryd.func13, Tryd.ntmps13
   go_wp2_with (first | ((with_reducible refine gate_callee (f := 23) rfl ?_); refine goesL_ (some 22) rfl rfl Tryd.func23 (by kernel_rfl) rfl #[.slice A0 l0.length c0, .int .i64 a1, .int .i64 a2] rfl (by (try simp only [List.map_toArray, List.map_cons, List.map_nil]); first | done | rfl | (simp only [List.length_drop, List.length_take]; rfl)) ?_; (with_reducible refine (partitaref26_lay.calls k _ _ l0 a1 a2 true _ ?side1 ?side2 A4.out).mono ?_); (case side1 => repeat (first | exact HR0.out | (with_reducible refine Kd.C_alloc ?_ _) | (with_reducible refine Kd.C_drewN ?_ _) | (with_reducible refine Kd.C_drew ?_))); (case side2 => exact HC0.out); rintro e w' ⟨rfl, ⟨nd, rfl⟩⟩; refine ⟨_, rfl, ?_⟩))
   go_loopg [9] k (fun kq v9 w' => ∃ (x9_1 : Int), v9 = .int .i64 x9_1 ∧ Aside0 (partitaref26_Break.l0 kq l0 a1 a2 (l0.length : Int) x9_1 = some (r1, r2)) ∧ Aside0 (kq ≤ k) ∧ Aside0 (Below w.heap.size w w'))
   case atStart => exact ⟨(0), (by first | rfl | (simp; done) | (simp [*]; done)), H', ⟨Nat.le_refl _⟩, ⟨by repeat (first | (with_reducible first | exact HB.out | apply below_alloc | apply pw_below_drewN | apply below_drew1) | exact HB.out)⟩⟩
   case round =>
    clear H'
    try clear c1
    try clear c2
    try clear p2
    try clear c5
    obtain ⟨x9_1, rfl, HA, HK1, HB⟩ := hrel
    cases gk with
    | zero => exact absurd HA.out (by simp [partitaref26_Break.l0])
    | succ k1 =>
     have H := HA.out
     clear HA
     simp only [partitaref26_Break.l0] at H
     by_cases c6 : x9_1 < (l0.length : Int)
     · rw [if_pos c6] at H
       have c6b0 : decide (x9_1 < (l0.length : Int)) = true := decide_eq_true c6
       clear c6
       by_cases c7 : 0 ≤ x9_1
       · rw [if_pos c7] at H
         have c7b0 : decide (0 ≤ x9_1) = true := decide_eq_true c7
         clear c7
         by_cases c8 : x9_1 < (l0.length : Int)
         · rw [if_pos c8] at H
           have c8b0 : decide (x9_1 < (l0.length : Int)) = true := decide_eq_true c8
           clear c8
           by_cases c9 : (rd l0 x9_1) > a1
           · rw [if_pos c9] at H
             have c9b0 : decide (a1 < (rd l0 x9_1)) = true := decide_eq_true c9
             clear c9
             simp only [Option.some.injEq, Prod.mk.injEq] at H
             obtain ⟨rfl, rfl⟩ := H
             have p195 : 0 ≤ (x9_1 : Int) := of_decide_eq_true (by first | (with_reducible assumption) | assumption)
             have q195 : x9_1 < (l0.length : Int) := of_decide_eq_true (by first | (with_reducible assumption) | assumption)
             obtain ⟨ad195, e195, hx195_0⟩ := Kd.at_int HR0.out x9_1 p195 q195
             cases e195
             replace hx195_0 := (HB.out.cell (World.block_lt_of_cell? w _ hx195_0)).trans hx195_0
             replace p195 := eq_true p195
             replace q195 := eq_true q195
             go_wp2
             go_ret2
             exact ⟨_, by first | rfl | (simp [errW_none, errW_some] <;> rfl) | (simp [*, errW_none, errW_some] <;> rfl), by first | exact Kd.S_nil _ _ _ _ _ | exact Kd.N_nil _ _ _ _ _ | exact Kd.V_nil _ _ _ _ _ | exact Kd.Q_nil _ _ _ _ _ | exact Kd.R_nil _ _ _ _ _, by repeat (first | (with_reducible first | exact HB.out | apply below_alloc | apply pw_below_drewN | apply below_drew1) | exact HB.out)⟩
           · rw [if_neg c9] at H
             have c9b0 : decide (a1 < (rd l0 x9_1)) = false := decide_eq_false c9
             clear c9
             have H' := Aside0.mk H
             clear H
             have p195 : 0 ≤ (x9_1 : Int) := of_decide_eq_true (by first | (with_reducible assumption) | assumption)
             have q195 : x9_1 < (l0.length : Int) := of_decide_eq_true (by first | (with_reducible assumption) | assumption)
             obtain ⟨ad195, e195, hx195_0⟩ := Kd.at_int HR0.out x9_1 p195 q195
             cases e195
             replace hx195_0 := (HB.out.cell (World.block_lt_of_cell? w _ hx195_0)).trans hx195_0
             replace p195 := eq_true p195
             replace q195 := eq_true q195
             go_wp2
             go_roundg k1
             case measure => have := HK1.out; omega
             case rel => exact ⟨(wrap64 (x9_1 + 1)), (by first | rfl | (simp; done) | (simp [*]; done)), H', ⟨by have := HK1.out; omega⟩, ⟨by repeat (first | (with_reducible first | exact HB.out | apply below_alloc | apply pw_below_drewN | apply below_drew1) | exact HB.out)⟩⟩
         · rw [if_neg c8] at H
           exact absurd H (by simp)
       · rw [if_neg c7] at H
         exact absurd H (by simp)
     · rw [if_neg c6] at H
       have c6b0 : decide (x9_1 < (l0.length : Int)) = false := decide_eq_false c6
       clear c6
       obtain ⟨ji10, hji10⟩ : ∃ j_ : Int, (wrap64 ((l0.length : Int) + 1)) = j_ := ⟨_, rfl⟩
       replace H : (if 0 ≤ (ji10) then (if (ji10 : Int).toNat ≤ 35184372088832 then (partitaref26_Break.l1 k1 l0 a1 a2 (l0.length : Int) (List.replicate (ji10 : Int).toNat 0) (List.replicate (ji10 : Int).toNat 0) (wrap64 ((l0.length : Int) - 1))) else (none)) else (none)) = some (r1, r2) := by first | (rw [hji10] at H; exact H) | (simp only [hji10] at H ⊢; exact H)
       have hji10w : (IntKind.i64.wrap ((l0.length : Int) + 1)) = ji10 := (i64_w _).trans hji10
       by_cases c11 : 0 ≤ (ji10)
       · rw [if_pos c11] at H
         have c11b0 := eq_true c11
         have c11b1 : decide (0 ≤ (ji10)) = true := decide_eq_true c11
         clear c11
         by_cases c12 : (ji10 : Int).toNat ≤ 35184372088832
         · rw [if_pos c12] at H
           have c12b0 := eq_true c12
           have c12b1 : decide ((ji10 : Int).toNat ≤ 35184372088832) = true := decide_eq_true c12
           clear c12
           obtain ⟨y196, hy196⟩ : ∃ y_ : List Int, y_ = (List.replicate (ji10 : Int).toNat 0) := ⟨_, rfl⟩
           replace H : (partitaref26_Break.l1 k1 l0 a1 a2 (l0.length : Int) y196 (List.replicate (ji10 : Int).toNat 0) (wrap64 ((l0.length : Int) - 1))) = some (r1, r2) := by first | (rw [hy196]; with_reducible exact H) | (have H2_ := (Option.bind_some _ _).symm.trans H; rw [hy196]; with_reducible exact H2_) | (have H2_ := (Option.bind_some _ _).symm.trans H; with_reducible exact H2_) | with_reducible exact H | (rw [hy196]; exact H) | exact H
           have Ny196 := Aside0.mk hy196
           clear hy196
           obtain ⟨y199, hy199⟩ : ∃ y_ : List Int, y_ = (List.replicate (ji10 : Int).toNat 0) := ⟨_, rfl⟩
           replace H : (partitaref26_Break.l1 k1 l0 a1 a2 (l0.length : Int) y196 y199 (wrap64 ((l0.length : Int) - 1))) = some (r1, r2) := by first | (rw [hy199]; with_reducible exact H) | (have H2_ := (Option.bind_some _ _).symm.trans H; rw [hy199]; with_reducible exact H2_) | (have H2_ := (Option.bind_some _ _).symm.trans H; with_reducible exact H2_) | with_reducible exact H | (rw [hy199]; exact H) | exact H
           have Ny199 := Aside0.mk hy199
           clear hy199
           have H' := Aside0.mk H
           clear H
           go_wp2_with (first | ((with_reducible refine gate_dst (N := 39) rfl ?_); refine Kd.R_make (Kd.int .i64) _ 3 rfl (N := 39) rfl 22 _ _ rfl ji10 rfl rfl Tryd.underlying22 (.int .i64 0) 8 info3 rfl (by decide) (by omega) 0 (ok := fun _ => True) (okp := fun _ => True) rfl (fun _ hk => hk) trivial (of_decide_eq_true (by first | (with_reducible assumption) | assumption)) (Nat.le_trans (Nat.mul_le_mul_right _ (of_decide_eq_true (by first | (with_reducible assumption) | assumption) : ji10.toNat ≤ 35184372088832)) (by omega)) (Below.refl _ _) (Nat.le_refl _) ?_; intro v197 w13 ho14 hb hg_ hnew_; clear hg_ hnew_; (first | rw [← Ny196.out] at ho14 | (simp only [Int.reduceToNat] at ho14; rw [← Ny196.out] at ho14)); have n0_ := Aside0.mk (Kd.R_lower ho14 (below_size (by repeat (first | (with_reducible first | exact HB.out | apply below_alloc | apply pw_below_drewN | apply below_drew1) | exact HB.out)))); have n1_ := Aside0.mk (below_step (by repeat (first | (with_reducible first | exact HB.out | apply below_alloc | apply pw_below_drewN | apply below_drew1) | exact HB.out)) hb); clear HB; have HO198 := n0_; have HB := n1_; clear n0_ n1_; clear hb ho14) | ((with_reducible refine gate_dst (N := 42) rfl ?_); refine Kd.R_make (Kd.int .i64) _ 3 rfl (N := 42) rfl 22 _ _ rfl ji10 rfl rfl Tryd.underlying22 (.int .i64 0) 8 info3 rfl (by decide) (by omega) 0 (ok := fun _ => True) (okp := fun _ => True) rfl (fun _ hk => hk) trivial (of_decide_eq_true (by first | (with_reducible assumption) | assumption)) (Nat.le_trans (Nat.mul_le_mul_right _ (of_decide_eq_true (by first | (with_reducible assumption) | assumption) : ji10.toNat ≤ 35184372088832)) (by omega)) (Below.refl _ _) (Nat.le_refl _) ?_; intro v200 w15 ho16 hb hg_ hnew_; clear hg_ hnew_; (first | rw [← Ny199.out] at ho16 | (simp only [Int.reduceToNat] at ho16; rw [← Ny199.out] at ho16)); have n0_ := Aside0.mk (Kd.R_elder' (qR HO198.out) (Kd.R_base ho16) hb); have n1_ := Aside0.mk (Kd.R_lower (Kd.R_new' ho16 (Kd.R_lt (qR HO198.out))) (below_size (by repeat (first | (with_reducible first | exact HB.out | apply below_alloc | apply pw_below_drewN | apply below_drew1) | exact HB.out)))); have n2_ := Aside0.mk (below_step (by repeat (first | (with_reducible first | exact HB.out | apply below_alloc | apply pw_below_drewN | apply below_drew1) | exact HB.out)) hb); clear HO198; clear HB; have HO198 := n0_; have HO201 := n1_; have HB := n2_; clear n0_ n1_ n2_; clear hb ho16))
           go_loopg [12] k1 (fun kq v12 w' => ∃ (x10_2 : List Int) (x11_2 : List Int) (x12_2 : Int), v12 = .int .i64 x12_2 ∧ Aside0 (partitaref26_Break.l1 kq l0 a1 a2 (l0.length : Int) x10_2 x11_2 x12_2 = some (r1, r2)) ∧ Aside0 (kq ≤ k1) ∧ Aside0 (Kd.R (Kd.int .i64) 3 w' w.heap.size (fun k_ => some k_ ≠ (v200 : Value).ownBlock) v197 x10_2) ∧ Aside0 (Kd.R (Kd.int .i64) 3 w' w.heap.size (fun k_ => some k_ ≠ (v197 : Value).ownBlock) v200 x11_2) ∧ Aside0 (Below w.heap.size w w'))
           case atStart => exact ⟨(y196), (y199), (wrap64 ((l0.length : Int) - 1)), (by first | rfl | (simp; done) | (simp [*]; done)), H', ⟨Nat.le_refl _⟩, ⟨by (with_reducible repeat (first | apply Kd.R_alloc | apply Kd.R_drewN | apply Kd.R_drew)); exact Kd.R_mono HO198.out (fun _ hk => hk.2)⟩, ⟨by (with_reducible repeat (first | apply Kd.R_alloc | apply Kd.R_drewN | apply Kd.R_drew)); exact Kd.R_mono HO201.out (fun _ hk => hk.2)⟩, ⟨by repeat (first | (with_reducible first | exact HB.out | apply below_alloc | apply pw_below_drewN | apply below_drew1) | exact HB.out)⟩⟩
           case round =>
            clear H'
            try clear c1
            try clear p1
            try clear q1
            try clear hx1
            try clear c2
            try clear p2
            try clear c5
            try clear c6
            try clear c6b0
            try clear p6
            try clear c7
            try clear c7b0
            try clear c8
            try clear c8b0
            try clear c9
            try clear c9b0
            try clear c11
            try clear c11b0
            try clear c11b1
            try clear c12
            try clear c12b0
            try clear c12b1
            try clear c13
            try clear hx195_0
            try clear p195
            try clear p2
            try clear q195
            obtain ⟨x10_2, x11_2, x12_2, rfl, HA, HK2, HO_10, HO_11, HB⟩ := hrel
            cases gk with
            | zero => exact absurd HA.out (by simp [partitaref26_Break.l1])
            | succ k2 =>
             have H := HA.out
             clear HA
             simp only [partitaref26_Break.l1] at H
             by_cases c17 : x12_2 ≥ 0
             · rw [if_pos c17] at H
               have c17b0 : decide (0 ≤ x12_2) = true := decide_eq_true c17
               clear c17
               have H' := Aside0.mk H
               clear H
               go_wp2
               go_loopg [13] k2 (fun kq v13 w' => ∃ (x10_3 : List Int) (x11_3 : List Int) (x13_3 : Int), v13 = .int .i64 x13_3 ∧ Aside0 (partitaref26_Break.l2 kq l0 a1 a2 (l0.length : Int) x10_3 x11_3 x12_2 x13_3 = some (r1, r2)) ∧ Aside0 (kq ≤ k2) ∧ Aside0 (Kd.R (Kd.int .i64) 3 w' w.heap.size (fun k_ => some k_ ≠ (v200 : Value).ownBlock) v197 x10_3) ∧ Aside0 (Kd.R (Kd.int .i64) 3 w' w.heap.size (fun k_ => some k_ ≠ (v197 : Value).ownBlock) v200 x11_3) ∧ Aside0 (Below w.heap.size w w'))
               case atStart => exact ⟨(x10_2), (x11_2), (wrap64 (x12_2 + 1)), (by first | rfl | (simp; done) | (simp [*]; done)), H', ⟨Nat.le_refl _⟩, ⟨by (with_reducible repeat (first | apply Kd.R_alloc | apply Kd.R_drewN | apply Kd.R_drew)); exact HO_10.out⟩, ⟨by (with_reducible repeat (first | apply Kd.R_alloc | apply Kd.R_drewN | apply Kd.R_drew)); exact HO_11.out⟩, ⟨by repeat (first | (with_reducible first | exact HB.out | apply below_alloc | apply pw_below_drewN | apply below_drew1) | exact HB.out)⟩⟩
               case round =>
                clear H'
                try clear c1
                try clear p1
                try clear q1
                try clear hx1
                try clear c2
                try clear p2
                try clear c5
                try clear c6
                try clear c6b0
                try clear p6
                try clear c7
                try clear c7b0
                try clear c8
                try clear c8b0
                try clear c9
                try clear c9b0
                try clear c11
                try clear c11b0
                try clear c11b1
                try clear c12
                try clear c12b0
                try clear c12b1
                try clear c13
                try clear c17
                try clear c17b0
                try clear hx195_0
                try clear p1
                try clear p195
                try clear p2
                try clear p6
                try clear q1
                try clear q195
                obtain ⟨x10_3, x11_3, x13_3, rfl, HA, HK3, HO_10, HO_11, HB⟩ := hrel
                cases gk with
                | zero => exact absurd HA.out (by simp [partitaref26_Break.l2])
                | succ k3 =>
                 have H := HA.out
                 clear HA
                 simp only [partitaref26_Break.l2] at H
                 simp only [Int.zero_mul, Int.zero_add] at H
                 by_cases c18 : x13_3 ≤ (l0.length : Int)
                 · rw [if_pos c18] at H
                   have c18b0 : decide (x13_3 ≤ (l0.length : Int)) = true := decide_eq_true c18
                   clear c18
                   replace H := Option.bind_eq_some_iff.mp H
                   obtain ⟨t202, A190, H⟩ := H
                   replace H : (if t202 < 0 then (partitaref26_Break.l1 k3 l0 a1 a2 (l0.length : Int) x10_3 x11_3 (wrap64 (x12_2 - 1))) else (if x13_3 = (l0.length : Int) then (if 0 ≤ x13_3 then (if x13_3 < (x10_3.length : Int) then (if 0 ≤ x12_2 then (if x12_2 < (x11_3.length : Int) then (if (rd x11_3 x12_2) = 0 then (if x12_2 < (x10_3.length : Int) then (partitaref26_Break.l2 k3 l0 a1 a2 (l0.length : Int) (x10_3.set (x12_2 : Int).toNat (wrap64 (rd x10_3 x13_3))) (x11_3.set (x12_2 : Int).toNat x13_3) x12_2 (wrap64 (x13_3 + 1))) else (none)) else (if x12_2 < (x10_3.length : Int) then (if (wrap64 (rd x10_3 x13_3)) ≤ (rd x10_3 x12_2) then (partitaref26_Break.l2 k3 l0 a1 a2 (l0.length : Int) (x10_3.set (x12_2 : Int).toNat (wrap64 (rd x10_3 x13_3))) (x11_3.set (x12_2 : Int).toNat x13_3) x12_2 (wrap64 (x13_3 + 1))) else (partitaref26_Break.l2 k3 l0 a1 a2 (l0.length : Int) x10_3 x11_3 x12_2 (wrap64 (x13_3 + 1)))) else (none))) else (none)) else (none)) else (none)) else (none)) else (if 0 ≤ x13_3 then (if x13_3 < (x10_3.length : Int) then (if 0 ≤ x12_2 then (if x12_2 < (x11_3.length : Int) then (if (rd x11_3 x12_2) = 0 then (if x12_2 < (x10_3.length : Int) then (partitaref26_Break.l2 k3 l0 a1 a2 (l0.length : Int) (x10_3.set (x12_2 : Int).toNat (wrap64 ((wrap64 (t202 * t202)) + (rd x10_3 x13_3)))) (x11_3.set (x12_2 : Int).toNat x13_3) x12_2 (wrap64 (x13_3 + 1))) else (none)) else (if x12_2 < (x10_3.length : Int) then (if (wrap64 ((wrap64 (t202 * t202)) + (rd x10_3 x13_3))) ≤ (rd x10_3 x12_2) then (partitaref26_Break.l2 k3 l0 a1 a2 (l0.length : Int) (x10_3.set (x12_2 : Int).toNat (wrap64 ((wrap64 (t202 * t202)) + (rd x10_3 x13_3)))) (x11_3.set (x12_2 : Int).toNat x13_3) x12_2 (wrap64 (x13_3 + 1))) else (partitaref26_Break.l2 k3 l0 a1 a2 (l0.length : Int) x10_3 x11_3 x12_2 (wrap64 (x13_3 + 1)))) else (none))) else (none)) else (none)) else (none)) else (none)))) = some (r1, r2) := H
                   have A19 := Aside0.mk A190
                   clear A190
                   by_cases c20 : t202 < 0
                   · rw [if_pos c20] at H
                     have c20b0 : decide (t202 < 0) = true := decide_eq_true c20
                     clear c20
                     have H' := Aside0.mk H
                     clear H
                     go_wp2_with (first | ((with_reducible refine gate_callee (f := 24) rfl ?_); refine goesL_ (some 61) rfl rfl Tryd.func24 (by kernel_rfl) rfl #[.slice A0 l0.length c0, .int .i64 a1, .int .i64 a2, .int .i64 x12_2, .int .i64 x13_3] rfl (by (try simp only [List.map_toArray, List.map_cons, List.map_nil]); first | done | rfl | (simp only [List.length_drop, List.length_take]; rfl)) ?_; (with_reducible refine (partitaref26_rest.calls k3 _ _ l0 a1 a2 x12_2 x13_3 t202 _ ?side1 ?side2 A19.out).mono ?_); (case side1 => repeat (first | exact (Kd.C_below HR0.out HB.out) | (with_reducible refine Kd.C_alloc ?_ _) | (with_reducible refine Kd.C_drewN ?_ _) | (with_reducible refine Kd.C_drew ?_))); (case side2 => exact HC0.out); rintro e w' ⟨rfl, ⟨nd, rfl⟩⟩; refine ⟨_, rfl, ?_⟩))
                     go_roundg k3
                     case measure => have := HK1.out; have := HK2.out; have := HK3.out; omega
                     case rel => exact ⟨(x10_3), (x11_3), (wrap64 (x12_2 - 1)), (by first | rfl | (simp; done) | (simp [*]; done)), H', ⟨by have := HK1.out; have := HK2.out; have := HK3.out; omega⟩, ⟨by (with_reducible repeat (first | apply Kd.R_alloc | apply Kd.R_drewN | apply Kd.R_drew)); exact HO_10.out⟩, ⟨by (with_reducible repeat (first | apply Kd.R_alloc | apply Kd.R_drewN | apply Kd.R_drew)); exact HO_11.out⟩, ⟨by repeat (first | (with_reducible first | exact HB.out | apply below_alloc | apply pw_below_drewN | apply below_drew1) | exact HB.out)⟩⟩
                   · rw [if_neg c20] at H
                     have c20b0 : decide (t202 < 0) = false := decide_eq_false c20
                     clear c20
                     by_cases c21 : x13_3 = (l0.length : Int)
                     · rw [if_pos c21] at H
                       have c21b0 : (x13_3 == (l0.length : Int)) = true := beq_iff_eq.mpr c21
                       have c21b1 : (x13_3 != (l0.length : Int)) = false := bne_eq_false_iff_eq.mpr c21
                       clear c21
                       by_cases c22 : 0 ≤ x13_3
                       · rw [if_pos c22] at H
                         have c22b0 : decide (0 ≤ x13_3) = true := decide_eq_true c22
                         clear c22
                         by_cases c23 : x13_3 < (x10_3.length : Int)
                         · rw [if_pos c23] at H
                           have c23b0 : decide (x13_3 < (x10_3.length : Int)) = true := decide_eq_true c23
                           clear c23
                           by_cases c24 : 0 ≤ x12_2
                           · rw [if_pos c24] at H
                             have c24b0 : decide (0 ≤ x12_2) = true := decide_eq_true c24
                             clear c24
                             by_cases c25 : x12_2 < (x11_3.length : Int)
                             · rw [if_pos c25] at H
                               have c25b0 : decide (x12_2 < (x11_3.length : Int)) = true := decide_eq_true c25
                               clear c25
                               by_cases c26 : (rd x11_3 x12_2) = 0
                               · rw [if_pos c26] at H
                                 have c26b0 : ((rd x11_3 x12_2) == 0) = true := beq_iff_eq.mpr c26
                                 have c26b1 : ((rd x11_3 x12_2) != 0) = false := bne_eq_false_iff_eq.mpr c26
                                 clear c26
                                 by_cases c27 : x12_2 < (x10_3.length : Int)
                                 · rw [if_pos c27] at H
                                   have c27b0 : decide (x12_2 < (x10_3.length : Int)) = true := decide_eq_true c27
                                   clear c27
                                   obtain ⟨y205, hy205⟩ : ∃ y_ : List Int, y_ = (x10_3.set (x12_2 : Int).toNat (wrap64 (rd x10_3 x13_3))) := ⟨_, rfl⟩
                                   replace H : (partitaref26_Break.l2 k3 l0 a1 a2 (l0.length : Int) y205 (x11_3.set (x12_2 : Int).toNat x13_3) x12_2 (wrap64 (x13_3 + 1))) = some (r1, r2) := by first | (rw [hy205]; with_reducible exact H) | (have H2_ := (Option.bind_some _ _).symm.trans H; rw [hy205]; with_reducible exact H2_) | (have H2_ := (Option.bind_some _ _).symm.trans H; with_reducible exact H2_) | with_reducible exact H | (rw [hy205]; exact H) | exact H
                                   have Ny205 := Aside0.mk hy205
                                   clear hy205
                                   obtain ⟨y206, hy206⟩ : ∃ y_ : List Int, y_ = (x11_3.set (x12_2 : Int).toNat x13_3) := ⟨_, rfl⟩
                                   replace H : (partitaref26_Break.l2 k3 l0 a1 a2 (l0.length : Int) y205 y206 x12_2 (wrap64 (x13_3 + 1))) = some (r1, r2) := by first | (rw [hy206]; with_reducible exact H) | (have H2_ := (Option.bind_some _ _).symm.trans H; rw [hy206]; with_reducible exact H2_) | (have H2_ := (Option.bind_some _ _).symm.trans H; with_reducible exact H2_) | with_reducible exact H | (rw [hy206]; exact H) | exact H
                                   have Ny206 := Aside0.mk hy206
                                   clear hy206
                                   have H' := Aside0.mk H
                                   clear H
                                   go_wp2_with (first | ((with_reducible refine gate_callee (f := 24) rfl ?_); refine goesL_ (some 61) rfl rfl Tryd.func24 (by kernel_rfl) rfl #[.slice A0 l0.length c0, .int .i64 a1, .int .i64 a2, .int .i64 x12_2, .int .i64 x13_3] rfl (by (try simp only [List.map_toArray, List.map_cons, List.map_nil]); first | done | rfl | (simp only [List.length_drop, List.length_take]; rfl)) ?_; (with_reducible refine (partitaref26_rest.calls k3 _ _ l0 a1 a2 x12_2 x13_3 t202 _ ?side1 ?side2 A19.out).mono ?_); (case side1 => repeat (first | exact (Kd.C_below HR0.out HB.out) | (with_reducible refine Kd.C_alloc ?_ _) | (with_reducible refine Kd.C_drewN ?_ _) | (with_reducible refine Kd.C_drew ?_))); (case side2 => exact HC0.out); rintro e w' ⟨rfl, ⟨nd, rfl⟩⟩; refine ⟨_, rfl, ?_⟩; (try (rw [drewN_self wr]; generalize hq_ : World.drewN wr _ = wr; have n0_ : Aside0 (Kd.R (Kd.int .i64) 3 wr w.heap.size (fun k_ => some k_ ≠ (v200 : Value).ownBlock) v197 x10_3) := ⟨by rw [← hq_]; exact (qR HO_10.out)⟩; have n1_ : Aside0 (Kd.R (Kd.int .i64) 3 wr w.heap.size (fun k_ => some k_ ≠ (v197 : Value).ownBlock) v200 x11_3) := ⟨by rw [← hq_]; exact (qR HO_11.out)⟩; have n2_ : Aside0 (Below w.heap.size w wr) := ⟨by rw [← hq_]; exact (by repeat (first | (with_reducible first | exact HB.out | apply below_alloc | apply pw_below_drewN | apply below_drew1) | exact HB.out))⟩; clear HO_10 HO_11 HB hq_; have HO_10 := n0_; have HO_11 := n1_; have HB := n2_; clear n0_ n1_ n2_)); obtain ⟨Ao30, co30, eo30⟩ := Kd.R_slice HO_10.out; subst eo30; have p203 : 0 ≤ (x13_3 : Int) := of_decide_eq_true (by first | (with_reducible assumption) | assumption); have q203 : x13_3 < (x10_3.length : Int) := of_decide_eq_true (by first | (with_reducible assumption) | assumption); obtain ⟨ad203, e203, hx203_0⟩ := Kd.at_int (Kd.R_reads' HO_10.out).2.2 x13_3 p203 q203; cases e203; replace p203 := eq_true p203; replace q203 := eq_true q203; obtain ⟨Ao31, co31, eo31⟩ := Kd.R_slice HO_11.out; subst eo31; have p204 : 0 ≤ (x12_2 : Int) := of_decide_eq_true (by first | (with_reducible assumption) | assumption); have q204 : x12_2 < (x11_3.length : Int) := of_decide_eq_true (by first | (with_reducible assumption) | assumption); obtain ⟨ad204, e204, hx204_0⟩ := Kd.at_int (Kd.R_reads' HO_11.out).2.2 x12_2 p204 q204; cases e204; replace p204 := eq_true p204; replace q204 := eq_true q204; have p28 : 0 ≤ (x12_2 : Int) := of_decide_eq_true (by first | (with_reducible assumption) | assumption); have q28 : (x12_2 : Int) < ((x10_3.length : Int) : Int) := of_decide_eq_true (by first | (with_reducible assumption) | assumption); obtain ⟨go28, co28, eo28, gb28, gl28, cl28, HG28⟩ := Kd.R_form HO_10.out (by omega); (first | cases eo28 | (injection eo28 with ea_ en_ ec_; (first | subst ea_ | (injection ea_ with ea_; subst ea_)); subst ec_; clear en_)); have GB28 := Aside0.mk gb28; have GG28 := Aside0.mk HG28; clear gb28 gl28 HG28; (first | simp only [add_plain] at hx203_0 | skip); obtain ⟨hx28_0, hf28_0⟩ := Kd.R_celln 0 HO_10.out (x12_2 : Int) p28 q28; replace p28 := eq_true p28; replace q28 := eq_true q28; obtain ⟨hy32_, hz32_⟩ := Kd.R_celln 0 HO_10.out (x12_2 : Int) (of_decide_eq_true (by first | (with_reducible assumption) | assumption)) (of_decide_eq_true (by first | (with_reducible assumption) | assumption)); have HP32 := Kd.R_putg HO_10.out (x12_2 : Int) (wrap64 (rd x10_3 x13_3))) | ((with_reducible refine gate_store (t := 3) (p := 91) rfl ?_); refine store_event (t := 3) (p := 91) (v := ?vo_w33) (w1 := (wr.setCell ⟨go28, (x12_2 : Int).toNat, none⟩ (.int .i64 (wrap64 (rd x10_3 x13_3))))) ?hg ?ho ?hn ?hr ?_; (case ho => rfl); (case hg => rfl); (case hn => rfl); (case hr => first | (go_simp; done) | (go_simp; rfl)); intro w33 hw; have hg : wr.grownBy w33 (some go28) := (by rw [hw]; exact HP32.2); have hp_ : Kd.R (Kd.int .i64) 3 w33 w.heap.size (fun k_ => some k_ ≠ (.slice (some ad204) x11_3.length co31 : Value).ownBlock) (.slice (some ⟨go28, 0, none⟩) x10_3.length co30) y205 := (by rw [hw, Ny205.out]; exact HP32.1); clear HP32; have n0_ := Aside0.mk (hp_); have n1_ := Aside0.mk (Kd.R_after (v := (.slice (some ⟨go28, 0, none⟩) x10_3.length co30)) (v1 := (.slice (some ⟨go28, 0, none⟩) x10_3.length co30)) (ok := (fun _ => True)) (qR (Kd.R_mono HO_11.out (fun _ hk => ⟨trivial, hk⟩))) hg (.inl rfl)); have n2_ := Aside0.mk ((by rw [hw]; exact below_set (HB.out) GB28.out : Below w.heap.size w w33)); clear HO_10; clear HO_11; clear HB; have HO_10 := n0_; have HO_11 := n1_; have HB := n2_; clear n0_ n1_ n2_; clear hg hw hp_; have p29 : 0 ≤ (x12_2 : Int) := of_decide_eq_true (by first | (with_reducible assumption) | assumption); have q29 : (x12_2 : Int) < ((x11_3.length : Int) : Int) := of_decide_eq_true (by first | (with_reducible assumption) | assumption); obtain ⟨go29, co29, eo29, gb29, gl29, cl29, HG29⟩ := Kd.R_form HO_11.out (by omega); (first | cases eo29 | (injection eo29 with ea_ en_ ec_; (first | subst ea_ | (injection ea_ with ea_; subst ea_)); subst ec_; clear en_)); have GB29 := Aside0.mk gb29; have GG29 := Aside0.mk HG29; clear gb29 gl29 HG29; (first | simp only [add_plain] at hx204_0 | skip); obtain ⟨hx29_0, hf29_0⟩ := Kd.R_celln 0 HO_11.out (x12_2 : Int) p29 q29; replace p29 := eq_true p29; replace q29 := eq_true q29; have n_ := Aside0.mk (Kd.R_mono (ok' := (fun k_ => some k_ ≠ (.slice (some ⟨go28, 0, none⟩) x10_3.length co30 : Value).ownBlock)) HO_11.out (fun k_ hk => hk.2)); clear HO_11; have HO_11 := n_; clear n_; obtain ⟨hy34_, hz34_⟩ := Kd.R_celln 0 HO_11.out (x12_2 : Int) (of_decide_eq_true (by first | (with_reducible assumption) | assumption)) (of_decide_eq_true (by first | (with_reducible assumption) | assumption)); have HP34 := Kd.R_putg HO_11.out (x12_2 : Int) x13_3) | ((with_reducible refine gate_store (t := 3) (p := 95) rfl ?_); refine store_event (t := 3) (p := 95) (v := ?vo_w35) (w1 := (w33.setCell ⟨go29, (x12_2 : Int).toNat, none⟩ (.int .i64 x13_3))) ?hg ?ho ?hn ?hr ?_; (case ho => rfl); (case hg => rfl); (case hn => rfl); (case hr => first | (go_simp; done) | (go_simp; rfl)); intro w35 hw; have hg : w33.grownBy w35 (some go29) := (by rw [hw]; exact HP34.2); have hp_ : Kd.R (Kd.int .i64) 3 w35 w.heap.size (fun k_ => some k_ ≠ (.slice (some ⟨go28, 0, none⟩) x10_3.length co30 : Value).ownBlock) (.slice (some ⟨go29, 0, none⟩) x11_3.length co31) y206 := (by rw [hw, Ny206.out]; exact HP34.1); clear HP34; have n0_ := Aside0.mk (Kd.R_after (v := (.slice (some ⟨go29, 0, none⟩) x11_3.length co31)) (v1 := (.slice (some ⟨go29, 0, none⟩) x11_3.length co31)) (ok := (fun _ => True)) (qR (Kd.R_mono HO_10.out (fun _ hk => ⟨trivial, hk⟩))) hg (.inl rfl)); have n1_ := Aside0.mk (hp_); have n2_ := Aside0.mk ((by rw [hw]; exact below_set (HB.out) GB29.out : Below w.heap.size w w35)); clear HO_10; clear HO_11; clear HB; have HO_10 := n0_; have HO_11 := n1_; have HB := n2_; clear n0_ n1_ n2_; clear hg hw hp_))
                                   go_roundg k3
                                   case measure => have := HK1.out; have := HK2.out; have := HK3.out; omega
                                   case rel => exact ⟨(y205), (y206), (wrap64 (x13_3 + 1)), (by first | rfl | (simp; done) | (simp [*]; done)), H', ⟨by have := HK1.out; have := HK2.out; have := HK3.out; omega⟩, ⟨by (with_reducible repeat (first | apply Kd.R_alloc | apply Kd.R_drewN | apply Kd.R_drew)); exact Kd.R_mono HO_10.out (fun _ hk => hk.2)⟩, ⟨by (with_reducible repeat (first | apply Kd.R_alloc | apply Kd.R_drewN | apply Kd.R_drew)); exact HO_11.out⟩, ⟨by repeat (first | (with_reducible first | exact HB.out | apply below_alloc | apply pw_below_drewN | apply below_drew1) | exact HB.out)⟩⟩
                                 · rw [if_neg c27] at H
                                   exact absurd H (by simp)
                               · rw [if_neg c26] at H
                                 have c26b0 : ((rd x11_3 x12_2) == 0) = false := beq_eq_false_iff_ne.mpr c26
                                 have c26b1 : ((rd x11_3 x12_2) != 0) = true := bne_iff_ne.mpr c26
                                 by_cases c36 : x12_2 < (x10_3.length : Int)
                                 · rw [if_pos c36] at H
                                   have c36b0 : decide (x12_2 < (x10_3.length : Int)) = true := decide_eq_true c36
                                   clear c36
                                   by_cases c37 : (wrap64 (rd x10_3 x13_3)) ≤ (rd x10_3 x12_2)
                                   · rw [if_pos c37] at H
                                     have c37b0 : decide ((wrap64 (rd x10_3 x13_3)) ≤ (rd x10_3 x12_2)) = true := decide_eq_true c37
                                     clear c37
                                     obtain ⟨y208, hy208⟩ : ∃ y_ : List Int, y_ = (x10_3.set (x12_2 : Int).toNat (wrap64 (rd x10_3 x13_3))) := ⟨_, rfl⟩
                                     replace H : (partitaref26_Break.l2 k3 l0 a1 a2 (l0.length : Int) y208 (x11_3.set (x12_2 : Int).toNat x13_3) x12_2 (wrap64 (x13_3 + 1))) = some (r1, r2) := by first | (rw [hy208]; with_reducible exact H) | (have H2_ := (Option.bind_some _ _).symm.trans H; rw [hy208]; with_reducible exact H2_) | (have H2_ := (Option.bind_some _ _).symm.trans H; with_reducible exact H2_) | with_reducible exact H | (rw [hy208]; exact H) | exact H
                                     have Ny208 := Aside0.mk hy208
                                     clear hy208
                                     obtain ⟨y209, hy209⟩ : ∃ y_ : List Int, y_ = (x11_3.set (x12_2 : Int).toNat x13_3) := ⟨_, rfl⟩
                                     replace H : (partitaref26_Break.l2 k3 l0 a1 a2 (l0.length : Int) y208 y209 x12_2 (wrap64 (x13_3 + 1))) = some (r1, r2) := by first | (rw [hy209]; with_reducible exact H) | (have H2_ := (Option.bind_some _ _).symm.trans H; rw [hy209]; with_reducible exact H2_) | (have H2_ := (Option.bind_some _ _).symm.trans H; with_reducible exact H2_) | with_reducible exact H | (rw [hy209]; exact H) | exact H
                                     have Ny209 := Aside0.mk hy209
                                     clear hy209
                                     have H' := Aside0.mk H
                                     clear H
                                     go_wp2_with (first | ((with_reducible refine gate_callee (f := 24) rfl ?_); refine goesL_ (some 61) rfl rfl Tryd.func24 (by kernel_rfl) rfl #[.slice A0 l0.length c0, .int .i64 a1, .int .i64 a2, .int .i64 x12_2, .int .i64 x13_3] rfl (by (try simp only [List.map_toArray, List.map_cons, List.map_nil]); first | done | rfl | (simp only [List.length_drop, List.length_take]; rfl)) ?_; (with_reducible refine (partitaref26_rest.calls k3 _ _ l0 a1 a2 x12_2 x13_3 t202 _ ?side1 ?side2 A19.out).mono ?_); (case side1 => repeat (first | exact (Kd.C_below HR0.out HB.out) | (with_reducible refine Kd.C_alloc ?_ _) | (with_reducible refine Kd.C_drewN ?_ _) | (with_reducible refine Kd.C_drew ?_))); (case side2 => exact HC0.out); rintro e w' ⟨rfl, ⟨nd, rfl⟩⟩; refine ⟨_, rfl, ?_⟩; (try (rw [drewN_self wr]; generalize hq_ : World.drewN wr _ = wr; have n0_ : Aside0 (Kd.R (Kd.int .i64) 3 wr w.heap.size (fun k_ => some k_ ≠ (v200 : Value).ownBlock) v197 x10_3) := ⟨by rw [← hq_]; exact (qR HO_10.out)⟩; have n1_ : Aside0 (Kd.R (Kd.int .i64) 3 wr w.heap.size (fun k_ => some k_ ≠ (v197 : Value).ownBlock) v200 x11_3) := ⟨by rw [← hq_]; exact (qR HO_11.out)⟩; have n2_ : Aside0 (Below w.heap.size w wr) := ⟨by rw [← hq_]; exact (by repeat (first | (with_reducible first | exact HB.out | apply below_alloc | apply pw_below_drewN | apply below_drew1) | exact HB.out))⟩; clear HO_10 HO_11 HB hq_; have HO_10 := n0_; have HO_11 := n1_; have HB := n2_; clear n0_ n1_ n2_)); obtain ⟨Ao40, co40, eo40⟩ := Kd.R_slice HO_10.out; subst eo40; have p203 : 0 ≤ (x13_3 : Int) := of_decide_eq_true (by first | (with_reducible assumption) | assumption); have q203 : x13_3 < (x10_3.length : Int) := of_decide_eq_true (by first | (with_reducible assumption) | assumption); obtain ⟨ad203, e203, hx203_0⟩ := Kd.at_int (Kd.R_reads' HO_10.out).2.2 x13_3 p203 q203; cases e203; replace p203 := eq_true p203; replace q203 := eq_true q203; obtain ⟨Ao41, co41, eo41⟩ := Kd.R_slice HO_11.out; subst eo41; have p204 : 0 ≤ (x12_2 : Int) := of_decide_eq_true (by first | (with_reducible assumption) | assumption); have q204 : x12_2 < (x11_3.length : Int) := of_decide_eq_true (by first | (with_reducible assumption) | assumption); obtain ⟨ad204, e204, hx204_0⟩ := Kd.at_int (Kd.R_reads' HO_11.out).2.2 x12_2 p204 q204; cases e204; replace p204 := eq_true p204; replace q204 := eq_true q204; have p207 : 0 ≤ (x12_2 : Int) := of_decide_eq_true (by first | (with_reducible assumption) | assumption); have q207 : x12_2 < (x10_3.length : Int) := of_decide_eq_true (by first | (with_reducible assumption) | assumption); obtain ⟨ad207, e207, hx207_0⟩ := Kd.at_int (Kd.R_reads' HO_10.out).2.2 x12_2 p207 q207; obtain rfl : ad203 = ad207 := (by injection e207); replace p207 := eq_true p207; replace q207 := eq_true q207; have p38 : 0 ≤ (x12_2 : Int) := of_decide_eq_true (by first | (with_reducible assumption) | assumption); have q38 : (x12_2 : Int) < ((x10_3.length : Int) : Int) := of_decide_eq_true (by first | (with_reducible assumption) | assumption); obtain ⟨go38, co38, eo38, gb38, gl38, cl38, HG38⟩ := Kd.R_form HO_10.out (by omega); (first | cases eo38 | (injection eo38 with ea_ en_ ec_; (first | subst ea_ | (injection ea_ with ea_; subst ea_)); subst ec_; clear en_)); have GB38 := Aside0.mk gb38; have GG38 := Aside0.mk HG38; clear gb38 gl38 HG38; (first | simp only [add_plain] at hx203_0 | skip); (first | simp only [add_plain] at hx207_0 | skip); obtain ⟨hx38_0, hf38_0⟩ := Kd.R_celln 0 HO_10.out (x12_2 : Int) p38 q38; replace p38 := eq_true p38; replace q38 := eq_true q38; obtain ⟨hy42_, hz42_⟩ := Kd.R_celln 0 HO_10.out (x12_2 : Int) (of_decide_eq_true (by first | (with_reducible assumption) | assumption)) (of_decide_eq_true (by first | (with_reducible assumption) | assumption)); have HP42 := Kd.R_putg HO_10.out (x12_2 : Int) (wrap64 (rd x10_3 x13_3))) | ((with_reducible refine gate_store (t := 3) (p := 91) rfl ?_); refine store_event (t := 3) (p := 91) (v := ?vo_w43) (w1 := (wr.setCell ⟨go38, (x12_2 : Int).toNat, none⟩ (.int .i64 (wrap64 (rd x10_3 x13_3))))) ?hg ?ho ?hn ?hr ?_; (case ho => rfl); (case hg => rfl); (case hn => rfl); (case hr => first | (go_simp; done) | (go_simp; rfl)); intro w43 hw; have hg : wr.grownBy w43 (some go38) := (by rw [hw]; exact HP42.2); have hp_ : Kd.R (Kd.int .i64) 3 w43 w.heap.size (fun k_ => some k_ ≠ (.slice (some ad204) x11_3.length co41 : Value).ownBlock) (.slice (some ⟨go38, 0, none⟩) x10_3.length co40) y208 := (by rw [hw, Ny208.out]; exact HP42.1); clear HP42; have n0_ := Aside0.mk (hp_); have n1_ := Aside0.mk (Kd.R_after (v := (.slice (some ⟨go38, 0, none⟩) x10_3.length co40)) (v1 := (.slice (some ⟨go38, 0, none⟩) x10_3.length co40)) (ok := (fun _ => True)) (qR (Kd.R_mono HO_11.out (fun _ hk => ⟨trivial, hk⟩))) hg (.inl rfl)); have n2_ := Aside0.mk ((by rw [hw]; exact below_set (HB.out) GB38.out : Below w.heap.size w w43)); clear HO_10; clear HO_11; clear HB; have HO_10 := n0_; have HO_11 := n1_; have HB := n2_; clear n0_ n1_ n2_; clear hg hw hp_; have p39 : 0 ≤ (x12_2 : Int) := of_decide_eq_true (by first | (with_reducible assumption) | assumption); have q39 : (x12_2 : Int) < ((x11_3.length : Int) : Int) := of_decide_eq_true (by first | (with_reducible assumption) | assumption); obtain ⟨go39, co39, eo39, gb39, gl39, cl39, HG39⟩ := Kd.R_form HO_11.out (by omega); (first | cases eo39 | (injection eo39 with ea_ en_ ec_; (first | subst ea_ | (injection ea_ with ea_; subst ea_)); subst ec_; clear en_)); have GB39 := Aside0.mk gb39; have GG39 := Aside0.mk HG39; clear gb39 gl39 HG39; (first | simp only [add_plain] at hx204_0 | skip); obtain ⟨hx39_0, hf39_0⟩ := Kd.R_celln 0 HO_11.out (x12_2 : Int) p39 q39; replace p39 := eq_true p39; replace q39 := eq_true q39; have n_ := Aside0.mk (Kd.R_mono (ok' := (fun k_ => some k_ ≠ (.slice (some ⟨go38, 0, none⟩) x10_3.length co40 : Value).ownBlock)) HO_11.out (fun k_ hk => hk.2)); clear HO_11; have HO_11 := n_; clear n_; obtain ⟨hy44_, hz44_⟩ := Kd.R_celln 0 HO_11.out (x12_2 : Int) (of_decide_eq_true (by first | (with_reducible assumption) | assumption)) (of_decide_eq_true (by first | (with_reducible assumption) | assumption)); have HP44 := Kd.R_putg HO_11.out (x12_2 : Int) x13_3) | ((with_reducible refine gate_store (t := 3) (p := 95) rfl ?_); refine store_event (t := 3) (p := 95) (v := ?vo_w45) (w1 := (w43.setCell ⟨go39, (x12_2 : Int).toNat, none⟩ (.int .i64 x13_3))) ?hg ?ho ?hn ?hr ?_; (case ho => rfl); (case hg => rfl); (case hn => rfl); (case hr => first | (go_simp; done) | (go_simp; rfl)); intro w45 hw; have hg : w43.grownBy w45 (some go39) := (by rw [hw]; exact HP44.2); have hp_ : Kd.R (Kd.int .i64) 3 w45 w.heap.size (fun k_ => some k_ ≠ (.slice (some ⟨go38, 0, none⟩) x10_3.length co40 : Value).ownBlock) (.slice (some ⟨go39, 0, none⟩) x11_3.length co41) y209 := (by rw [hw, Ny209.out]; exact HP44.1); clear HP44; have n0_ := Aside0.mk (Kd.R_after (v := (.slice (some ⟨go39, 0, none⟩) x11_3.length co41)) (v1 := (.slice (some ⟨go39, 0, none⟩) x11_3.length co41)) (ok := (fun _ => True)) (qR (Kd.R_mono HO_10.out (fun _ hk => ⟨trivial, hk⟩))) hg (.inl rfl)); have n1_ := Aside0.mk (hp_); have n2_ := Aside0.mk ((by rw [hw]; exact below_set (HB.out) GB39.out : Below w.heap.size w w45)); clear HO_10; clear HO_11; clear HB; have HO_10 := n0_; have HO_11 := n1_; have HB := n2_; clear n0_ n1_ n2_; clear hg hw hp_))
                                     go_roundg k3
                                     case measure => have := HK1.out; have := HK2.out; have := HK3.out; omega
                                     case rel => exact ⟨(y208), (y209), (wrap64 (x13_3 + 1)), (by first | rfl | (simp; done) | (simp [*]; done)), H', ⟨by have := HK1.out; have := HK2.out; have := HK3.out; omega⟩, ⟨by (with_reducible repeat (first | apply Kd.R_alloc | apply Kd.R_drewN | apply Kd.R_drew)); exact Kd.R_mono HO_10.out (fun _ hk => hk.2)⟩, ⟨by (with_reducible repeat (first | apply Kd.R_alloc | apply Kd.R_drewN | apply Kd.R_drew)); exact HO_11.out⟩, ⟨by repeat (first | (with_reducible first | exact HB.out | apply below_alloc | apply pw_below_drewN | apply below_drew1) | exact HB.out)⟩⟩
                                   · rw [if_neg c37] at H
                                     have c37b0 : decide ((wrap64 (rd x10_3 x13_3)) ≤ (rd x10_3 x12_2)) = false := decide_eq_false c37
                                     clear c37
                                     have H' := Aside0.mk H
                                     clear H
                                     go_wp2_with (first | ((with_reducible refine gate_callee (f := 24) rfl ?_); refine goesL_ (some 61) rfl rfl Tryd.func24 (by kernel_rfl) rfl #[.slice A0 l0.length c0, .int .i64 a1, .int .i64 a2, .int .i64 x12_2, .int .i64 x13_3] rfl (by (try simp only [List.map_toArray, List.map_cons, List.map_nil]); first | done | rfl | (simp only [List.length_drop, List.length_take]; rfl)) ?_; (with_reducible refine (partitaref26_rest.calls k3 _ _ l0 a1 a2 x12_2 x13_3 t202 _ ?side1 ?side2 A19.out).mono ?_); (case side1 => repeat (first | exact (Kd.C_below HR0.out HB.out) | (with_reducible refine Kd.C_alloc ?_ _) | (with_reducible refine Kd.C_drewN ?_ _) | (with_reducible refine Kd.C_drew ?_))); (case side2 => exact HC0.out); rintro e w' ⟨rfl, ⟨nd, rfl⟩⟩; refine ⟨_, rfl, ?_⟩; obtain ⟨Ao46, co46, eo46⟩ := Kd.R_slice HO_10.out; subst eo46; have p203 : 0 ≤ (x13_3 : Int) := of_decide_eq_true (by first | (with_reducible assumption) | assumption); have q203 : x13_3 < (x10_3.length : Int) := of_decide_eq_true (by first | (with_reducible assumption) | assumption); obtain ⟨ad203, e203, hx203_0⟩ := Kd.at_int (Kd.R_reads' HO_10.out).2.2 x13_3 p203 q203; cases e203; replace p203 := eq_true p203; replace q203 := eq_true q203; obtain ⟨Ao47, co47, eo47⟩ := Kd.R_slice HO_11.out; subst eo47; have p204 : 0 ≤ (x12_2 : Int) := of_decide_eq_true (by first | (with_reducible assumption) | assumption); have q204 : x12_2 < (x11_3.length : Int) := of_decide_eq_true (by first | (with_reducible assumption) | assumption); obtain ⟨ad204, e204, hx204_0⟩ := Kd.at_int (Kd.R_reads' HO_11.out).2.2 x12_2 p204 q204; cases e204; replace p204 := eq_true p204; replace q204 := eq_true q204; have p207 : 0 ≤ (x12_2 : Int) := of_decide_eq_true (by first | (with_reducible assumption) | assumption); have q207 : x12_2 < (x10_3.length : Int) := of_decide_eq_true (by first | (with_reducible assumption) | assumption); obtain ⟨ad207, e207, hx207_0⟩ := Kd.at_int (Kd.R_reads' HO_10.out).2.2 x12_2 p207 q207; obtain rfl : ad203 = ad207 := (by injection e207); replace p207 := eq_true p207; replace q207 := eq_true q207))
                                     go_roundg k3
                                     case measure => have := HK1.out; have := HK2.out; have := HK3.out; omega
                                     case rel => exact ⟨(x10_3), (x11_3), (wrap64 (x13_3 + 1)), (by first | rfl | (simp; done) | (simp [*]; done)), H', ⟨by have := HK1.out; have := HK2.out; have := HK3.out; omega⟩, ⟨by (with_reducible repeat (first | apply Kd.R_alloc | apply Kd.R_drewN | apply Kd.R_drew)); exact HO_10.out⟩, ⟨by (with_reducible repeat (first | apply Kd.R_alloc | apply Kd.R_drewN | apply Kd.R_drew)); exact HO_11.out⟩, ⟨by repeat (first | (with_reducible first | exact HB.out | apply below_alloc | apply pw_below_drewN | apply below_drew1) | exact HB.out)⟩⟩
                                 · rw [if_neg c36] at H
                                   exact absurd H (by simp)
                             · rw [if_neg c25] at H
                               exact absurd H (by simp)
                           · rw [if_neg c24] at H
                             exact absurd H (by simp)
                         · rw [if_neg c23] at H
                           exact absurd H (by simp)
                       · rw [if_neg c22] at H
                         exact absurd H (by simp)
                     · rw [if_neg c21] at H
                       have c21b0 : (x13_3 == (l0.length : Int)) = false := beq_eq_false_iff_ne.mpr c21
                       have c21b1 : (x13_3 != (l0.length : Int)) = true := bne_iff_ne.mpr c21
                       by_cases c48 : 0 ≤ x13_3
                       · rw [if_pos c48] at H
                         have c48b0 : decide (0 ≤ x13_3) = true := decide_eq_true c48
                         clear c48
                         by_cases c49 : x13_3 < (x10_3.length : Int)
                         · rw [if_pos c49] at H
                           have c49b0 : decide (x13_3 < (x10_3.length : Int)) = true := decide_eq_true c49
                           clear c49
                           by_cases c50 : 0 ≤ x12_2
                           · rw [if_pos c50] at H
                             have c50b0 : decide (0 ≤ x12_2) = true := decide_eq_true c50
                             clear c50
                             by_cases c51 : x12_2 < (x11_3.length : Int)
                             · rw [if_pos c51] at H
                               have c51b0 : decide (x12_2 < (x11_3.length : Int)) = true := decide_eq_true c51
                               clear c51
                               by_cases c52 : (rd x11_3 x12_2) = 0
                               · rw [if_pos c52] at H
                                 have c52b0 : ((rd x11_3 x12_2) == 0) = true := beq_iff_eq.mpr c52
                                 have c52b1 : ((rd x11_3 x12_2) != 0) = false := bne_eq_false_iff_eq.mpr c52
                                 clear c52
                                 by_cases c53 : x12_2 < (x10_3.length : Int)
                                 · rw [if_pos c53] at H
                                   have c53b0 : decide (x12_2 < (x10_3.length : Int)) = true := decide_eq_true c53
                                   clear c53
                                   obtain ⟨y212, hy212⟩ : ∃ y_ : List Int, y_ = (x10_3.set (x12_2 : Int).toNat (wrap64 ((wrap64 (t202 * t202)) + (rd x10_3 x13_3)))) := ⟨_, rfl⟩
                                   replace H : (partitaref26_Break.l2 k3 l0 a1 a2 (l0.length : Int) y212 (x11_3.set (x12_2 : Int).toNat x13_3) x12_2 (wrap64 (x13_3 + 1))) = some (r1, r2) := by first | (rw [hy212]; with_reducible exact H) | (have H2_ := (Option.bind_some _ _).symm.trans H; rw [hy212]; with_reducible exact H2_) | (have H2_ := (Option.bind_some _ _).symm.trans H; with_reducible exact H2_) | with_reducible exact H | (rw [hy212]; exact H) | exact H
                                   have Ny212 := Aside0.mk hy212
                                   clear hy212
                                   obtain ⟨y213, hy213⟩ : ∃ y_ : List Int, y_ = (x11_3.set (x12_2 : Int).toNat x13_3) := ⟨_, rfl⟩
                                   replace H : (partitaref26_Break.l2 k3 l0 a1 a2 (l0.length : Int) y212 y213 x12_2 (wrap64 (x13_3 + 1))) = some (r1, r2) := by first | (rw [hy213]; with_reducible exact H) | (have H2_ := (Option.bind_some _ _).symm.trans H; rw [hy213]; with_reducible exact H2_) | (have H2_ := (Option.bind_some _ _).symm.trans H; with_reducible exact H2_) | with_reducible exact H | (rw [hy213]; exact H) | exact H
                                   have Ny213 := Aside0.mk hy213
                                   clear hy213
                                   have H' := Aside0.mk H
                                   clear H
                                   go_wp2_with (first | ((with_reducible refine gate_callee (f := 24) rfl ?_); refine goesL_ (some 61) rfl rfl Tryd.func24 (by kernel_rfl) rfl #[.slice A0 l0.length c0, .int .i64 a1, .int .i64 a2, .int .i64 x12_2, .int .i64 x13_3] rfl (by (try simp only [List.map_toArray, List.map_cons, List.map_nil]); first | done | rfl | (simp only [List.length_drop, List.length_take]; rfl)) ?_; (with_reducible refine (partitaref26_rest.calls k3 _ _ l0 a1 a2 x12_2 x13_3 t202 _ ?side1 ?side2 A19.out).mono ?_); (case side1 => repeat (first | exact (Kd.C_below HR0.out HB.out) | (with_reducible refine Kd.C_alloc ?_ _) | (with_reducible refine Kd.C_drewN ?_ _) | (with_reducible refine Kd.C_drew ?_))); (case side2 => exact HC0.out); rintro e w' ⟨rfl, ⟨nd, rfl⟩⟩; refine ⟨_, rfl, ?_⟩; (try (rw [drewN_self wr]; generalize hq_ : World.drewN wr _ = wr; have n0_ : Aside0 (Kd.R (Kd.int .i64) 3 wr w.heap.size (fun k_ => some k_ ≠ (v200 : Value).ownBlock) v197 x10_3) := ⟨by rw [← hq_]; exact (qR HO_10.out)⟩; have n1_ : Aside0 (Kd.R (Kd.int .i64) 3 wr w.heap.size (fun k_ => some k_ ≠ (v197 : Value).ownBlock) v200 x11_3) := ⟨by rw [← hq_]; exact (qR HO_11.out)⟩; have n2_ : Aside0 (Below w.heap.size w wr) := ⟨by rw [← hq_]; exact (by repeat (first | (with_reducible first | exact HB.out | apply below_alloc | apply pw_below_drewN | apply below_drew1) | exact HB.out))⟩; clear HO_10 HO_11 HB hq_; have HO_10 := n0_; have HO_11 := n1_; have HB := n2_; clear n0_ n1_ n2_)); obtain ⟨Ao56, co56, eo56⟩ := Kd.R_slice HO_10.out; subst eo56; have p210 : 0 ≤ (x13_3 : Int) := of_decide_eq_true (by first | (with_reducible assumption) | assumption); have q210 : x13_3 < (x10_3.length : Int) := of_decide_eq_true (by first | (with_reducible assumption) | assumption); obtain ⟨ad210, e210, hx210_0⟩ := Kd.at_int (Kd.R_reads' HO_10.out).2.2 x13_3 p210 q210; cases e210; replace p210 := eq_true p210; replace q210 := eq_true q210; obtain ⟨Ao57, co57, eo57⟩ := Kd.R_slice HO_11.out; subst eo57; have p211 : 0 ≤ (x12_2 : Int) := of_decide_eq_true (by first | (with_reducible assumption) | assumption); have q211 : x12_2 < (x11_3.length : Int) := of_decide_eq_true (by first | (with_reducible assumption) | assumption); obtain ⟨ad211, e211, hx211_0⟩ := Kd.at_int (Kd.R_reads' HO_11.out).2.2 x12_2 p211 q211; cases e211; replace p211 := eq_true p211; replace q211 := eq_true q211; have p54 : 0 ≤ (x12_2 : Int) := of_decide_eq_true (by first | (with_reducible assumption) | assumption); have q54 : (x12_2 : Int) < ((x10_3.length : Int) : Int) := of_decide_eq_true (by first | (with_reducible assumption) | assumption); obtain ⟨go54, co54, eo54, gb54, gl54, cl54, HG54⟩ := Kd.R_form HO_10.out (by omega); (first | cases eo54 | (injection eo54 with ea_ en_ ec_; (first | subst ea_ | (injection ea_ with ea_; subst ea_)); subst ec_; clear en_)); have GB54 := Aside0.mk gb54; have GG54 := Aside0.mk HG54; clear gb54 gl54 HG54; (first | simp only [add_plain] at hx210_0 | skip); obtain ⟨hx54_0, hf54_0⟩ := Kd.R_celln 0 HO_10.out (x12_2 : Int) p54 q54; replace p54 := eq_true p54; replace q54 := eq_true q54; obtain ⟨hy58_, hz58_⟩ := Kd.R_celln 0 HO_10.out (x12_2 : Int) (of_decide_eq_true (by first | (with_reducible assumption) | assumption)) (of_decide_eq_true (by first | (with_reducible assumption) | assumption)); have HP58 := Kd.R_putg HO_10.out (x12_2 : Int) (wrap64 ((wrap64 (t202 * t202)) + (rd x10_3 x13_3)))) | ((with_reducible refine gate_store (t := 3) (p := 91) rfl ?_); refine store_event (t := 3) (p := 91) (v := ?vo_w59) (w1 := (wr.setCell ⟨go54, (x12_2 : Int).toNat, none⟩ (.int .i64 (wrap64 ((wrap64 (t202 * t202)) + (rd x10_3 x13_3)))))) ?hg ?ho ?hn ?hr ?_; (case ho => rfl); (case hg => rfl); (case hn => rfl); (case hr => first | (go_simp; done) | (go_simp; rfl)); intro w59 hw; have hg : wr.grownBy w59 (some go54) := (by rw [hw]; exact HP58.2); have hp_ : Kd.R (Kd.int .i64) 3 w59 w.heap.size (fun k_ => some k_ ≠ (.slice (some ad211) x11_3.length co57 : Value).ownBlock) (.slice (some ⟨go54, 0, none⟩) x10_3.length co56) y212 := (by rw [hw, Ny212.out]; exact HP58.1); clear HP58; have n0_ := Aside0.mk (hp_); have n1_ := Aside0.mk (Kd.R_after (v := (.slice (some ⟨go54, 0, none⟩) x10_3.length co56)) (v1 := (.slice (some ⟨go54, 0, none⟩) x10_3.length co56)) (ok := (fun _ => True)) (qR (Kd.R_mono HO_11.out (fun _ hk => ⟨trivial, hk⟩))) hg (.inl rfl)); have n2_ := Aside0.mk ((by rw [hw]; exact below_set (HB.out) GB54.out : Below w.heap.size w w59)); clear HO_10; clear HO_11; clear HB; have HO_10 := n0_; have HO_11 := n1_; have HB := n2_; clear n0_ n1_ n2_; clear hg hw hp_; have p55 : 0 ≤ (x12_2 : Int) := of_decide_eq_true (by first | (with_reducible assumption) | assumption); have q55 : (x12_2 : Int) < ((x11_3.length : Int) : Int) := of_decide_eq_true (by first | (with_reducible assumption) | assumption); obtain ⟨go55, co55, eo55, gb55, gl55, cl55, HG55⟩ := Kd.R_form HO_11.out (by omega); (first | cases eo55 | (injection eo55 with ea_ en_ ec_; (first | subst ea_ | (injection ea_ with ea_; subst ea_)); subst ec_; clear en_)); have GB55 := Aside0.mk gb55; have GG55 := Aside0.mk HG55; clear gb55 gl55 HG55; (first | simp only [add_plain] at hx211_0 | skip); obtain ⟨hx55_0, hf55_0⟩ := Kd.R_celln 0 HO_11.out (x12_2 : Int) p55 q55; replace p55 := eq_true p55; replace q55 := eq_true q55; have n_ := Aside0.mk (Kd.R_mono (ok' := (fun k_ => some k_ ≠ (.slice (some ⟨go54, 0, none⟩) x10_3.length co56 : Value).ownBlock)) HO_11.out (fun k_ hk => hk.2)); clear HO_11; have HO_11 := n_; clear n_; obtain ⟨hy60_, hz60_⟩ := Kd.R_celln 0 HO_11.out (x12_2 : Int) (of_decide_eq_true (by first | (with_reducible assumption) | assumption)) (of_decide_eq_true (by first | (with_reducible assumption) | assumption)); have HP60 := Kd.R_putg HO_11.out (x12_2 : Int) x13_3) | ((with_reducible refine gate_store (t := 3) (p := 95) rfl ?_); refine store_event (t := 3) (p := 95) (v := ?vo_w61) (w1 := (w59.setCell ⟨go55, (x12_2 : Int).toNat, none⟩ (.int .i64 x13_3))) ?hg ?ho ?hn ?hr ?_; (case ho => rfl); (case hg => rfl); (case hn => rfl); (case hr => first | (go_simp; done) | (go_simp; rfl)); intro w61 hw; have hg : w59.grownBy w61 (some go55) := (by rw [hw]; exact HP60.2); have hp_ : Kd.R (Kd.int .i64) 3 w61 w.heap.size (fun k_ => some k_ ≠ (.slice (some ⟨go54, 0, none⟩) x10_3.length co56 : Value).ownBlock) (.slice (some ⟨go55, 0, none⟩) x11_3.length co57) y213 := (by rw [hw, Ny213.out]; exact HP60.1); clear HP60; have n0_ := Aside0.mk (Kd.R_after (v := (.slice (some ⟨go55, 0, none⟩) x11_3.length co57)) (v1 := (.slice (some ⟨go55, 0, none⟩) x11_3.length co57)) (ok := (fun _ => True)) (qR (Kd.R_mono HO_10.out (fun _ hk => ⟨trivial, hk⟩))) hg (.inl rfl)); have n1_ := Aside0.mk (hp_); have n2_ := Aside0.mk ((by rw [hw]; exact below_set (HB.out) GB55.out : Below w.heap.size w w61)); clear HO_10; clear HO_11; clear HB; have HO_10 := n0_; have HO_11 := n1_; have HB := n2_; clear n0_ n1_ n2_; clear hg hw hp_))
                                   go_roundg k3
                                   case measure => have := HK1.out; have := HK2.out; have := HK3.out; omega
                                   case rel => exact ⟨(y212), (y213), (wrap64 (x13_3 + 1)), (by first | rfl | (simp; done) | (simp [*]; done)), H', ⟨by have := HK1.out; have := HK2.out; have := HK3.out; omega⟩, ⟨by (with_reducible repeat (first | apply Kd.R_alloc | apply Kd.R_drewN | apply Kd.R_drew)); exact Kd.R_mono HO_10.out (fun _ hk => hk.2)⟩, ⟨by (with_reducible repeat (first | apply Kd.R_alloc | apply Kd.R_drewN | apply Kd.R_drew)); exact HO_11.out⟩, ⟨by repeat (first | (with_reducible first | exact HB.out | apply below_alloc | apply pw_below_drewN | apply below_drew1) | exact HB.out)⟩⟩
                                 · rw [if_neg c53] at H
                                   exact absurd H (by simp)
                               · rw [if_neg c52] at H
                                 have c52b0 : ((rd x11_3 x12_2) == 0) = false := beq_eq_false_iff_ne.mpr c52
                                 have c52b1 : ((rd x11_3 x12_2) != 0) = true := bne_iff_ne.mpr c52
                                 by_cases c62 : x12_2 < (x10_3.length : Int)
                                 · rw [if_pos c62] at H
                                   have c62b0 : decide (x12_2 < (x10_3.length : Int)) = true := decide_eq_true c62
                                   clear c62
                                   by_cases c63 : (wrap64 ((wrap64 (t202 * t202)) + (rd x10_3 x13_3))) ≤ (rd x10_3 x12_2)
                                   · rw [if_pos c63] at H
                                     have c63b0 : decide ((wrap64 ((wrap64 (t202 * t202)) + (rd x10_3 x13_3))) ≤ (rd x10_3 x12_2)) = true := decide_eq_true c63
                                     clear c63
                                     obtain ⟨y215, hy215⟩ : ∃ y_ : List Int, y_ = (x10_3.set (x12_2 : Int).toNat (wrap64 ((wrap64 (t202 * t202)) + (rd x10_3 x13_3)))) := ⟨_, rfl⟩
                                     replace H : (partitaref26_Break.l2 k3 l0 a1 a2 (l0.length : Int) y215 (x11_3.set (x12_2 : Int).toNat x13_3) x12_2 (wrap64 (x13_3 + 1))) = some (r1, r2) := by first | (rw [hy215]; with_reducible exact H) | (have H2_ := (Option.bind_some _ _).symm.trans H; rw [hy215]; with_reducible exact H2_) | (have H2_ := (Option.bind_some _ _).symm.trans H; with_reducible exact H2_) | with_reducible exact H | (rw [hy215]; exact H) | exact H
                                     have Ny215 := Aside0.mk hy215
                                     clear hy215
                                     obtain ⟨y216, hy216⟩ : ∃ y_ : List Int, y_ = (x11_3.set (x12_2 : Int).toNat x13_3) := ⟨_, rfl⟩
                                     replace H : (partitaref26_Break.l2 k3 l0 a1 a2 (l0.length : Int) y215 y216 x12_2 (wrap64 (x13_3 + 1))) = some (r1, r2) := by first | (rw [hy216]; with_reducible exact H) | (have H2_ := (Option.bind_some _ _).symm.trans H; rw [hy216]; with_reducible exact H2_) | (have H2_ := (Option.bind_some _ _).symm.trans H; with_reducible exact H2_) | with_reducible exact H | (rw [hy216]; exact H) | exact H
                                     have Ny216 := Aside0.mk hy216
                                     clear hy216
                                     have H' := Aside0.mk H
                                     clear H
                                     go_wp2_with (first | ((with_reducible refine gate_callee (f := 24) rfl ?_); refine goesL_ (some 61) rfl rfl Tryd.func24 (by kernel_rfl) rfl #[.slice A0 l0.length c0, .int .i64 a1, .int .i64 a2, .int .i64 x12_2, .int .i64 x13_3] rfl (by (try simp only [List.map_toArray, List.map_cons, List.map_nil]); first | done | rfl | (simp only [List.length_drop, List.length_take]; rfl)) ?_; (with_reducible refine (partitaref26_rest.calls k3 _ _ l0 a1 a2 x12_2 x13_3 t202 _ ?side1 ?side2 A19.out).mono ?_); (case side1 => repeat (first | exact (Kd.C_below HR0.out HB.out) | (with_reducible refine Kd.C_alloc ?_ _) | (with_reducible refine Kd.C_drewN ?_ _) | (with_reducible refine Kd.C_drew ?_))); (case side2 => exact HC0.out); rintro e w' ⟨rfl, ⟨nd, rfl⟩⟩; refine ⟨_, rfl, ?_⟩; (try (rw [drewN_self wr]; generalize hq_ : World.drewN wr _ = wr; have n0_ : Aside0 (Kd.R (Kd.int .i64) 3 wr w.heap.size (fun k_ => some k_ ≠ (v200 : Value).ownBlock) v197 x10_3) := ⟨by rw [← hq_]; exact (qR HO_10.out)⟩; have n1_ : Aside0 (Kd.R (Kd.int .i64) 3 wr w.heap.size (fun k_ => some k_ ≠ (v197 : Value).ownBlock) v200 x11_3) := ⟨by rw [← hq_]; exact (qR HO_11.out)⟩; have n2_ : Aside0 (Below w.heap.size w wr) := ⟨by rw [← hq_]; exact (by repeat (first | (with_reducible first | exact HB.out | apply below_alloc | apply pw_below_drewN | apply below_drew1) | exact HB.out))⟩; clear HO_10 HO_11 HB hq_; have HO_10 := n0_; have HO_11 := n1_; have HB := n2_; clear n0_ n1_ n2_)); obtain ⟨Ao66, co66, eo66⟩ := Kd.R_slice HO_10.out; subst eo66; have p210 : 0 ≤ (x13_3 : Int) := of_decide_eq_true (by first | (with_reducible assumption) | assumption); have q210 : x13_3 < (x10_3.length : Int) := of_decide_eq_true (by first | (with_reducible assumption) | assumption); obtain ⟨ad210, e210, hx210_0⟩ := Kd.at_int (Kd.R_reads' HO_10.out).2.2 x13_3 p210 q210; cases e210; replace p210 := eq_true p210; replace q210 := eq_true q210; obtain ⟨Ao67, co67, eo67⟩ := Kd.R_slice HO_11.out; subst eo67; have p211 : 0 ≤ (x12_2 : Int) := of_decide_eq_true (by first | (with_reducible assumption) | assumption); have q211 : x12_2 < (x11_3.length : Int) := of_decide_eq_true (by first | (with_reducible assumption) | assumption); obtain ⟨ad211, e211, hx211_0⟩ := Kd.at_int (Kd.R_reads' HO_11.out).2.2 x12_2 p211 q211; cases e211; replace p211 := eq_true p211; replace q211 := eq_true q211; have p214 : 0 ≤ (x12_2 : Int) := of_decide_eq_true (by first | (with_reducible assumption) | assumption); have q214 : x12_2 < (x10_3.length : Int) := of_decide_eq_true (by first | (with_reducible assumption) | assumption); obtain ⟨ad214, e214, hx214_0⟩ := Kd.at_int (Kd.R_reads' HO_10.out).2.2 x12_2 p214 q214; obtain rfl : ad210 = ad214 := (by injection e214); replace p214 := eq_true p214; replace q214 := eq_true q214; have p64 : 0 ≤ (x12_2 : Int) := of_decide_eq_true (by first | (with_reducible assumption) | assumption); have q64 : (x12_2 : Int) < ((x10_3.length : Int) : Int) := of_decide_eq_true (by first | (with_reducible assumption) | assumption); obtain ⟨go64, co64, eo64, gb64, gl64, cl64, HG64⟩ := Kd.R_form HO_10.out (by omega); (first | cases eo64 | (injection eo64 with ea_ en_ ec_; (first | subst ea_ | (injection ea_ with ea_; subst ea_)); subst ec_; clear en_)); have GB64 := Aside0.mk gb64; have GG64 := Aside0.mk HG64; clear gb64 gl64 HG64; (first | simp only [add_plain] at hx210_0 | skip); (first | simp only [add_plain] at hx214_0 | skip); obtain ⟨hx64_0, hf64_0⟩ := Kd.R_celln 0 HO_10.out (x12_2 : Int) p64 q64; replace p64 := eq_true p64; replace q64 := eq_true q64; obtain ⟨hy68_, hz68_⟩ := Kd.R_celln 0 HO_10.out (x12_2 : Int) (of_decide_eq_true (by first | (with_reducible assumption) | assumption)) (of_decide_eq_true (by first | (with_reducible assumption) | assumption)); have HP68 := Kd.R_putg HO_10.out (x12_2 : Int) (wrap64 ((wrap64 (t202 * t202)) + (rd x10_3 x13_3)))) | ((with_reducible refine gate_store (t := 3) (p := 91) rfl ?_); refine store_event (t := 3) (p := 91) (v := ?vo_w69) (w1 := (wr.setCell ⟨go64, (x12_2 : Int).toNat, none⟩ (.int .i64 (wrap64 ((wrap64 (t202 * t202)) + (rd x10_3 x13_3)))))) ?hg ?ho ?hn ?hr ?_; (case ho => rfl); (case hg => rfl); (case hn => rfl); (case hr => first | (go_simp; done) | (go_simp; rfl)); intro w69 hw; have hg : wr.grownBy w69 (some go64) := (by rw [hw]; exact HP68.2); have hp_ : Kd.R (Kd.int .i64) 3 w69 w.heap.size (fun k_ => some k_ ≠ (.slice (some ad211) x11_3.length co67 : Value).ownBlock) (.slice (some ⟨go64, 0, none⟩) x10_3.length co66) y215 := (by rw [hw, Ny215.out]; exact HP68.1); clear HP68; have n0_ := Aside0.mk (hp_); have n1_ := Aside0.mk (Kd.R_after (v := (.slice (some ⟨go64, 0, none⟩) x10_3.length co66)) (v1 := (.slice (some ⟨go64, 0, none⟩) x10_3.length co66)) (ok := (fun _ => True)) (qR (Kd.R_mono HO_11.out (fun _ hk => ⟨trivial, hk⟩))) hg (.inl rfl)); have n2_ := Aside0.mk ((by rw [hw]; exact below_set (HB.out) GB64.out : Below w.heap.size w w69)); clear HO_10; clear HO_11; clear HB; have HO_10 := n0_; have HO_11 := n1_; have HB := n2_; clear n0_ n1_ n2_; clear hg hw hp_; have p65 : 0 ≤ (x12_2 : Int) := of_decide_eq_true (by first | (with_reducible assumption) | assumption); have q65 : (x12_2 : Int) < ((x11_3.length : Int) : Int) := of_decide_eq_true (by first | (with_reducible assumption) | assumption); obtain ⟨go65, co65, eo65, gb65, gl65, cl65, HG65⟩ := Kd.R_form HO_11.out (by omega); (first | cases eo65 | (injection eo65 with ea_ en_ ec_; (first | subst ea_ | (injection ea_ with ea_; subst ea_)); subst ec_; clear en_)); have GB65 := Aside0.mk gb65; have GG65 := Aside0.mk HG65; clear gb65 gl65 HG65; (first | simp only [add_plain] at hx211_0 | skip); obtain ⟨hx65_0, hf65_0⟩ := Kd.R_celln 0 HO_11.out (x12_2 : Int) p65 q65; replace p65 := eq_true p65; replace q65 := eq_true q65; have n_ := Aside0.mk (Kd.R_mono (ok' := (fun k_ => some k_ ≠ (.slice (some ⟨go64, 0, none⟩) x10_3.length co66 : Value).ownBlock)) HO_11.out (fun k_ hk => hk.2)); clear HO_11; have HO_11 := n_; clear n_; obtain ⟨hy70_, hz70_⟩ := Kd.R_celln 0 HO_11.out (x12_2 : Int) (of_decide_eq_true (by first | (with_reducible assumption) | assumption)) (of_decide_eq_true (by first | (with_reducible assumption) | assumption)); have HP70 := Kd.R_putg HO_11.out (x12_2 : Int) x13_3) | ((with_reducible refine gate_store (t := 3) (p := 95) rfl ?_); refine store_event (t := 3) (p := 95) (v := ?vo_w71) (w1 := (w69.setCell ⟨go65, (x12_2 : Int).toNat, none⟩ (.int .i64 x13_3))) ?hg ?ho ?hn ?hr ?_; (case ho => rfl); (case hg => rfl); (case hn => rfl); (case hr => first | (go_simp; done) | (go_simp; rfl)); intro w71 hw; have hg : w69.grownBy w71 (some go65) := (by rw [hw]; exact HP70.2); have hp_ : Kd.R (Kd.int .i64) 3 w71 w.heap.size (fun k_ => some k_ ≠ (.slice (some ⟨go64, 0, none⟩) x10_3.length co66 : Value).ownBlock) (.slice (some ⟨go65, 0, none⟩) x11_3.length co67) y216 := (by rw [hw, Ny216.out]; exact HP70.1); clear HP70; have n0_ := Aside0.mk (Kd.R_after (v := (.slice (some ⟨go65, 0, none⟩) x11_3.length co67)) (v1 := (.slice (some ⟨go65, 0, none⟩) x11_3.length co67)) (ok := (fun _ => True)) (qR (Kd.R_mono HO_10.out (fun _ hk => ⟨trivial, hk⟩))) hg (.inl rfl)); have n1_ := Aside0.mk (hp_); have n2_ := Aside0.mk ((by rw [hw]; exact below_set (HB.out) GB65.out : Below w.heap.size w w71)); clear HO_10; clear HO_11; clear HB; have HO_10 := n0_; have HO_11 := n1_; have HB := n2_; clear n0_ n1_ n2_; clear hg hw hp_))
                                     go_roundg k3
                                     case measure => have := HK1.out; have := HK2.out; have := HK3.out; omega
                                     case rel => exact ⟨(y215), (y216), (wrap64 (x13_3 + 1)), (by first | rfl | (simp; done) | (simp [*]; done)), H', ⟨by have := HK1.out; have := HK2.out; have := HK3.out; omega⟩, ⟨by (with_reducible repeat (first | apply Kd.R_alloc | apply Kd.R_drewN | apply Kd.R_drew)); exact Kd.R_mono HO_10.out (fun _ hk => hk.2)⟩, ⟨by (with_reducible repeat (first | apply Kd.R_alloc | apply Kd.R_drewN | apply Kd.R_drew)); exact HO_11.out⟩, ⟨by repeat (first | (with_reducible first | exact HB.out | apply below_alloc | apply pw_below_drewN | apply below_drew1) | exact HB.out)⟩⟩
                                   · rw [if_neg c63] at H
                                     have c63b0 : decide ((wrap64 ((wrap64 (t202 * t202)) + (rd x10_3 x13_3))) ≤ (rd x10_3 x12_2)) = false := decide_eq_false c63
                                     clear c63
                                     have H' := Aside0.mk H
                                     clear H
                                     go_wp2_with (first | ((with_reducible refine gate_callee (f := 24) rfl ?_); refine goesL_ (some 61) rfl rfl Tryd.func24 (by kernel_rfl) rfl #[.slice A0 l0.length c0, .int .i64 a1, .int .i64 a2, .int .i64 x12_2, .int .i64 x13_3] rfl (by (try simp only [List.map_toArray, List.map_cons, List.map_nil]); first | done | rfl | (simp only [List.length_drop, List.length_take]; rfl)) ?_; (with_reducible refine (partitaref26_rest.calls k3 _ _ l0 a1 a2 x12_2 x13_3 t202 _ ?side1 ?side2 A19.out).mono ?_); (case side1 => repeat (first | exact (Kd.C_below HR0.out HB.out) | (with_reducible refine Kd.C_alloc ?_ _) | (with_reducible refine Kd.C_drewN ?_ _) | (with_reducible refine Kd.C_drew ?_))); (case side2 => exact HC0.out); rintro e w' ⟨rfl, ⟨nd, rfl⟩⟩; refine ⟨_, rfl, ?_⟩; obtain ⟨Ao72, co72, eo72⟩ := Kd.R_slice HO_10.out; subst eo72; have p210 : 0 ≤ (x13_3 : Int) := of_decide_eq_true (by first | (with_reducible assumption) | assumption); have q210 : x13_3 < (x10_3.length : Int) := of_decide_eq_true (by first | (with_reducible assumption) | assumption); obtain ⟨ad210, e210, hx210_0⟩ := Kd.at_int (Kd.R_reads' HO_10.out).2.2 x13_3 p210 q210; cases e210; replace p210 := eq_true p210; replace q210 := eq_true q210; obtain ⟨Ao73, co73, eo73⟩ := Kd.R_slice HO_11.out; subst eo73; have p211 : 0 ≤ (x12_2 : Int) := of_decide_eq_true (by first | (with_reducible assumption) | assumption); have q211 : x12_2 < (x11_3.length : Int) := of_decide_eq_true (by first | (with_reducible assumption) | assumption); obtain ⟨ad211, e211, hx211_0⟩ := Kd.at_int (Kd.R_reads' HO_11.out).2.2 x12_2 p211 q211; cases e211; replace p211 := eq_true p211; replace q211 := eq_true q211; have p214 : 0 ≤ (x12_2 : Int) := of_decide_eq_true (by first | (with_reducible assumption) | assumption); have q214 : x12_2 < (x10_3.length : Int) := of_decide_eq_true (by first | (with_reducible assumption) | assumption); obtain ⟨ad214, e214, hx214_0⟩ := Kd.at_int (Kd.R_reads' HO_10.out).2.2 x12_2 p214 q214; obtain rfl : ad210 = ad214 := (by injection e214); replace p214 := eq_true p214; replace q214 := eq_true q214))
                                     go_roundg k3
                                     case measure => have := HK1.out; have := HK2.out; have := HK3.out; omega
                                     case rel => exact ⟨(x10_3), (x11_3), (wrap64 (x13_3 + 1)), (by first | rfl | (simp; done) | (simp [*]; done)), H', ⟨by have := HK1.out; have := HK2.out; have := HK3.out; omega⟩, ⟨by (with_reducible repeat (first | apply Kd.R_alloc | apply Kd.R_drewN | apply Kd.R_drew)); exact HO_10.out⟩, ⟨by (with_reducible repeat (first | apply Kd.R_alloc | apply Kd.R_drewN | apply Kd.R_drew)); exact HO_11.out⟩, ⟨by repeat (first | (with_reducible first | exact HB.out | apply below_alloc | apply pw_below_drewN | apply below_drew1) | exact HB.out)⟩⟩
                                 · rw [if_neg c62] at H
                                   exact absurd H (by simp)
                             · rw [if_neg c51] at H
                               exact absurd H (by simp)
                           · rw [if_neg c50] at H
                             exact absurd H (by simp)
                         · rw [if_neg c49] at H
                           exact absurd H (by simp)
                       · rw [if_neg c48] at H
                         exact absurd H (by simp)
                 · rw [if_neg c18] at H
                   have c18b0 : decide (x13_3 ≤ (l0.length : Int)) = false := decide_eq_false c18
                   clear c18
                   have H' := Aside0.mk H
                   clear H
                   go_wp2
                   go_roundg k3
                   case measure => have := HK1.out; have := HK2.out; have := HK3.out; omega
                   case rel => exact ⟨(x10_3), (x11_3), (wrap64 (x12_2 - 1)), (by first | rfl | (simp; done) | (simp [*]; done)), H', ⟨by have := HK1.out; have := HK2.out; have := HK3.out; omega⟩, ⟨by (with_reducible repeat (first | apply Kd.R_alloc | apply Kd.R_drewN | apply Kd.R_drew)); exact HO_10.out⟩, ⟨by (with_reducible repeat (first | apply Kd.R_alloc | apply Kd.R_drewN | apply Kd.R_drew)); exact HO_11.out⟩, ⟨by repeat (first | (with_reducible first | exact HB.out | apply below_alloc | apply pw_below_drewN | apply below_drew1) | exact HB.out)⟩⟩
             · rw [if_neg c17] at H
               have c17b0 : decide (0 ≤ x12_2) = false := decide_eq_false c17
               clear c17
               have H' := Aside0.mk H
               clear H
               go_wp2
               go_loopg [16, 17] k2 (fun kq v16 v17 w' => ∃ (x16_3 : List (S37)) (x17_3 : Int), v17 = .int .i64 x17_3 ∧ Aside0 (partitaref26_Break.l3 kq l0 a1 a2 (l0.length : Int) x11_2 x16_3 x17_3 = some (r1, r2)) ∧ Aside0 (kq ≤ k2) ∧ Aside0 (Kd.R (Kd.int .i64) 3 w' w.heap.size (fun _ => True) v200 x11_2) ∧ Aside0 (Kd.S k37 37 w' w.heap.size (fun k_ => some k_ ≠ (v200 : Value).ownBlock) v16 x16_3) ∧ Aside0 (Below w.heap.size w w'))
               case atStart => exact ⟨(([] : List (S37))), (0), (by first | rfl | (simp; done) | (simp [*]; done)), H', ⟨Nat.le_refl _⟩, ⟨by (with_reducible repeat (first | apply Kd.R_alloc | apply Kd.R_drewN | apply Kd.R_drew)); exact Kd.R_mono HO_11.out (fun _ hk => trivial)⟩, ⟨by first | exact Kd.S_nil _ _ _ _ _ | exact Kd.N_nil _ _ _ _ _ | exact Kd.V_nil _ _ _ _ _ | exact Kd.Q_nil _ _ _ _ _ | exact Kd.R_nil _ _ _ _ _⟩, ⟨by repeat (first | (with_reducible first | exact HB.out | apply below_alloc | apply pw_below_drewN | apply below_drew1) | exact HB.out)⟩⟩
               case round =>
                clear H'
                try clear c1
                try clear p1
                try clear q1
                try clear hx1
                try clear c2
                try clear p2
                try clear q2
                try clear hx2
                try clear c3
                try clear p3
                try clear q3
                try clear hx3
                try clear hf3
                try clear c4
                try clear c5
                try clear p5
                try clear q5
                try clear hx5
                try clear hf5
                try clear c6
                try clear c6b0
                try clear p6
                try clear q6
                try clear hx6
                try clear hf6
                try clear c7
                try clear c7b0
                try clear c8
                try clear c8b0
                try clear c9
                try clear c9b0
                try clear c11
                try clear c11b0
                try clear c11b1
                try clear c12
                try clear c12b0
                try clear c12b1
                try clear c13
                try clear c17
                try clear c17b0
                try clear c18
                try clear c18b0
                try clear p19
                try clear q19
                try clear hx19
                try clear c20
                try clear c20b0
                try clear p20
                try clear q20
                try clear hx20
                try clear c21
                try clear c21b0
                try clear c21b1
                try clear p21
                try clear q21
                try clear hx21
                try clear c22
                try clear c22b0
                try clear c23
                try clear c23b0
                try clear c24
                try clear c24b0
                try clear c25
                try clear c25b0
                try clear c26
                try clear c26b0
                try clear c26b1
                try clear c27
                try clear c27b0
                try clear p28
                try clear q28
                try clear hx28
                try clear hf28
                try clear p29
                try clear q29
                try clear hx29
                try clear hf29
                try clear c36
                try clear c36b0
                try clear c37
                try clear c37b0
                try clear p38
                try clear q38
                try clear hx38
                try clear hf38
                try clear p39
                try clear q39
                try clear hx39
                try clear hf39
                try clear c48
                try clear c48b0
                try clear c49
                try clear c49b0
                try clear c50
                try clear c50b0
                try clear c51
                try clear c51b0
                try clear c52
                try clear c52b0
                try clear c52b1
                try clear c53
                try clear c53b0
                try clear p54
                try clear q54
                try clear hx54
                try clear hf54
                try clear p55
                try clear q55
                try clear hx55
                try clear hf55
                try clear c62
                try clear c62b0
                try clear c63
                try clear c63b0
                try clear p64
                try clear q64
                try clear hx64
                try clear hf64
                try clear p65
                try clear q65
                try clear hx65
                try clear hf65
                try clear hx195_0
                try clear hx203_0
                try clear hx204_0
                try clear hx207_0
                try clear hx210_0
                try clear hx211_0
                try clear hx214_0
                try clear hx28_0
                try clear hx29_0
                try clear hx38_0
                try clear hx39_0
                try clear hx54_0
                try clear hx55_0
                try clear hx64_0
                try clear hx65_0
                try clear p1
                try clear p195
                try clear p2
                try clear p203
                try clear p204
                try clear p207
                try clear p210
                try clear p211
                try clear p214
                try clear p28
                try clear p29
                try clear p38
                try clear p39
                try clear p54
                try clear p55
                try clear p6
                try clear p64
                try clear p65
                try clear q1
                try clear q195
                try clear q203
                try clear q204
                try clear q207
                try clear q210
                try clear q211
                try clear q214
                try clear q28
                try clear q29
                try clear q38
                try clear q39
                try clear q54
                try clear q55
                try clear q64
                try clear q65
                obtain ⟨x16_3, x17_3, rfl, HA, HK3, HO_11, HO_16, HB⟩ := hrel
                cases gk with
                | zero => exact absurd HA.out (by simp [partitaref26_Break.l3])
                | succ k3 =>
                 have H := HA.out
                 clear HA
                 simp only [partitaref26_Break.l3] at H
                 by_cases c74 : x17_3 < (l0.length : Int)
                 · rw [if_pos c74] at H
                   have c74b0 : decide (x17_3 < (l0.length : Int)) = true := decide_eq_true c74
                   clear c74
                   by_cases c75 : 0 ≤ x17_3
                   · rw [if_pos c75] at H
                     have c75b0 : decide (0 ≤ x17_3) = true := decide_eq_true c75
                     clear c75
                     by_cases c76 : x17_3 < (x11_2.length : Int)
                     · rw [if_pos c76] at H
                       have c76b0 : decide (x17_3 < (x11_2.length : Int)) = true := decide_eq_true c76
                       clear c76
                       replace H := Option.bind_eq_some_iff.mp H
                       obtain ⟨t218, A770, H⟩ := H
                       replace H : (if (rd x11_2 x17_3) = (l0.length : Int) then ((partitaref26_tops.f k3 l0 a2 x17_3 (rd x11_2 x17_3) 0).bind fun t222 => (if x16_3.length < 3518437208883 then (partitaref26_Break.l3 k3 l0 a1 a2 (l0.length : Int) x11_2 (x16_3 ++ [(⟨x17_3, rd x11_2 x17_3, t222⟩ : S37)]) (rd x11_2 x17_3)) else (none))) else ((partitaref26_tops.f k3 l0 a2 x17_3 (rd x11_2 x17_3) t218).bind fun t231 => (if x16_3.length < 3518437208883 then (partitaref26_Break.l3 k3 l0 a1 a2 (l0.length : Int) x11_2 (x16_3 ++ [(⟨x17_3, rd x11_2 x17_3, t231⟩ : S37)]) (rd x11_2 x17_3)) else (none)))) = some (r1, r2) := H
                       have A77 := Aside0.mk A770
                       clear A770
                       by_cases c78 : (rd x11_2 x17_3) = (l0.length : Int)
                       · rw [if_pos c78] at H
                         have c78b0 : ((rd x11_2 x17_3) == (l0.length : Int)) = true := beq_iff_eq.mpr c78
                         have c78b1 : ((rd x11_2 x17_3) != (l0.length : Int)) = false := bne_eq_false_iff_eq.mpr c78
                         clear c78
                         replace H := Option.bind_eq_some_iff.mp H
                         obtain ⟨t222, A790, H⟩ := H
                         replace H : (if x16_3.length < 3518437208883 then (partitaref26_Break.l3 k3 l0 a1 a2 (l0.length : Int) x11_2 (x16_3 ++ [(⟨x17_3, rd x11_2 x17_3, t222⟩ : S37)]) (rd x11_2 x17_3)) else (none)) = some (r1, r2) := H
                         have A79 := Aside0.mk A790
                         clear A790
                         by_cases c80 : x16_3.length < 3518437208883
                         · rw [if_pos c80] at H
                           have LMc80 := Aside0.mk c80
                           clear c80
                           obtain ⟨y225, hy225⟩ : ∃ y_ : List (S37), y_ = (x16_3 ++ [(⟨x17_3, rd x11_2 x17_3, t222⟩ : S37)]) := ⟨_, rfl⟩
                           replace H : (partitaref26_Break.l3 k3 l0 a1 a2 (l0.length : Int) x11_2 y225 (rd x11_2 x17_3)) = some (r1, r2) := by first | (rw [hy225]; with_reducible exact H) | (have H2_ := (Option.bind_some _ _).symm.trans H; rw [hy225]; with_reducible exact H2_) | (have H2_ := (Option.bind_some _ _).symm.trans H; with_reducible exact H2_) | with_reducible exact H | (rw [hy225]; exact H) | exact H
                           have Ny225 := Aside0.mk hy225
                           clear hy225
                           have H' := Aside0.mk H
                           clear H
                           obtain ⟨Ao81, co81, eo81⟩ := Kd.R_slice HO_11.out
                           subst eo81
                           have p217 : 0 ≤ (x17_3 : Int) := of_decide_eq_true (by first | (with_reducible assumption) | assumption)
                           have q217 : x17_3 < (x11_2.length : Int) := of_decide_eq_true (by first | (with_reducible assumption) | assumption)
                           obtain ⟨ad217, e217, hx217_0⟩ := Kd.at_int (Kd.R_reads' HO_11.out).2.2 x17_3 p217 q217
                           cases e217
                           replace p217 := eq_true p217
                           replace q217 := eq_true q217
                           try go_wp2_with (first | ((with_reducible refine gate_callee (f := 24) rfl ?_); refine goesL_ (some 111) rfl rfl Tryd.func24 (by kernel_rfl) rfl #[.slice A0 l0.length c0, .int .i64 a1, .int .i64 a2, .int .i64 x17_3, .int .i64 (rd x11_2 x17_3)] rfl (by (try simp only [List.map_toArray, List.map_cons, List.map_nil]); first | done | rfl | (simp only [List.length_drop, List.length_take]; rfl)) ?_; (with_reducible refine (partitaref26_rest.calls k3 _ _ l0 a1 a2 x17_3 (rd x11_2 x17_3) t218 _ ?side1 ?side2 A77.out).mono ?_); (case side1 => repeat (first | exact (Kd.C_below HR0.out HB.out) | (with_reducible refine Kd.C_alloc ?_ _) | (with_reducible refine Kd.C_drewN ?_ _) | (with_reducible refine Kd.C_drew ?_))); (case side2 => exact HC0.out); rintro e w' ⟨rfl, ⟨nd, rfl⟩⟩; refine ⟨_, rfl, ?_⟩; have p219 : 0 ≤ (x17_3 : Int) := of_decide_eq_true (by first | (with_reducible assumption) | assumption); have q219 : x17_3 < (x11_2.length : Int) := of_decide_eq_true (by first | (with_reducible assumption) | assumption); obtain ⟨ad219, e219, hx219_0⟩ := Kd.at_int (Kd.R_reads' HO_11.out).2.2 x17_3 p219 q219; obtain rfl : ad217 = ad219 := (by injection e219); replace p219 := eq_true p219; replace q219 := eq_true q219))
                           (try (rw [drewN_self wr]; generalize hq_ : World.drewN wr _ = wr; have n0_ : Aside0 (Kd.R (Kd.int .i64) 3 wr w.heap.size (fun _ => True) (.slice (some ad217) x11_2.length co81) x11_2) := ⟨by rw [← hq_]; exact (qR HO_11.out)⟩; have n1_ : Aside0 (Kd.S k37 37 wr w.heap.size (fun k_ => some k_ ≠ (.slice (some ad217) x11_2.length co81 : Value).ownBlock) u16 x16_3) := ⟨by rw [← hq_]; exact (by (with_reducible repeat (first | apply Kd.S_alloc | apply Kd.S_drewN | apply Kd.S_drew)); exact HO_16.out)⟩; have n2_ : Aside0 (Below w.heap.size w wr) := ⟨by rw [← hq_]; exact (by repeat (first | (with_reducible first | exact HB.out | apply below_alloc | apply pw_below_drewN | apply below_drew1) | exact HB.out))⟩; clear HO_11 HO_16 HB hq_; have HO_11 := n0_; have HO_16 := n1_; have HB := n2_; clear n0_ n1_ n2_))
                           have n0_ := Aside0.mk (Kd.R_drew HO_11.out)
                           have n1_ := Aside0.mk (Kd.S_drew HO_16.out)
                           have n2_ := Aside0.mk (below_drew1 HB.out)
                           clear HO_11
                           clear HO_16
                           clear HB
                           have HO_11 := n0_
                           have HO_16 := n1_
                           have HB := n2_
                           clear n0_ n1_ n2_
                           have p220 : 0 ≤ (x17_3 : Int) := of_decide_eq_true (by first | (with_reducible assumption) | assumption)
                           have q220 : x17_3 < (x11_2.length : Int) := of_decide_eq_true (by first | (with_reducible assumption) | assumption)
                           obtain ⟨ad220, e220, hx220_0⟩ := Kd.at_int (Kd.R_reads' HO_11.out).2.2 x17_3 p220 q220
                           obtain rfl : ad217 = ad220 := (by injection e220)
                           replace p220 := eq_true p220
                           replace q220 := eq_true q220
                           have p221 : 0 ≤ (x17_3 : Int) := of_decide_eq_true (by first | (with_reducible assumption) | assumption)
                           have q221 : x17_3 < (x11_2.length : Int) := of_decide_eq_true (by first | (with_reducible assumption) | assumption)
                           obtain ⟨ad221, e221, hx221_0⟩ := Kd.at_int (Kd.R_reads' HO_11.out).2.2 x17_3 p221 q221
                           obtain rfl : ad217 = ad221 := (by injection e221)
                           replace p221 := eq_true p221
                           replace q221 := eq_true q221
                           refine start_ (n := 19) (S := fun w' => w'.cell? (ad217.add (x17_3).toNat) = some (.int .i64 (rd x11_2 x17_3)) ∧ w'.cell? (ad217.add (x17_3).toNat) = some (.int .i64 (rd x11_2 x17_3))) (ds := [16, 17]) #[false, false, false, false, false, false, false, false, false, false, false, false, false, false, false, false, false, false, false] (by kernel_rfl) rfl rfl ⟨hx220_0, hx221_0⟩ (fun hHeld => ?_); refine with_tabW partitaref26_Break.tab32 partitaref26_Break.bits32 (fun HT_ HW_ => ?_)
                           generalize wr.drew = w82 at HO_11 HO_16 HB hx220_0 hx221_0 hHeld ⊢
                           refine pure_ (i := 0) (N := some 118) (v := ?_) (a' := ?_) #[true, false, false, false, false, false, false, false, false, false, false, false, false, false, false, false, false, false, false] rfl rfl (any_of HT_.out (by kernel_rfl)) (fun _ _ _ h => h) (Or.inl ⟨by rfl, ?_⟩) ?_ ?_
                           rotate_left
                           · intro w'
                             go_simp
                             with_reducible rfl
                           rotate_left
                           · simp only [Act.put, qa_, qz_, qs_, i64_w, i32_w]
                             rfl
                           refine pure_ (i := 1) (N := some 119) (v := ?_) (a' := ?_) #[true, true, false, false, false, false, false, false, false, false, false, false, false, false, false, false, false, false, false] rfl rfl (any_of HT_.out (by kernel_rfl)) (fun _ _ _ h => h) (Or.inl ⟨by rfl, ?_⟩) ?_ ?_
                           rotate_left
                           · intro w'
                             go_simp
                             with_reducible rfl
                           rotate_left
                           · simp only [Act.put, qa_, qz_, qs_, i64_w, i32_w]
                             rfl
                           refine pure_ (i := 2) (N := some 120) (v := ?_) (a' := ?_) #[true, true, true, false, false, false, false, false, false, false, false, false, false, false, false, false, false, false, false] rfl rfl (any_of HT_.out (by kernel_rfl)) (fun _ _ _ h => h) (Or.inl ⟨by rfl, ?_⟩) ?_ ?_
                           rotate_left
                           · intro w'
                             go_simp
                             with_reducible rfl
                           rotate_left
                           · simp only [Act.put, qa_, qz_, qs_, i64_w, i32_w]
                             rfl
                           refine pure_ (i := 3) (N := some 121) (v := ?_) (a' := ?_) #[true, true, true, true, false, false, false, false, false, false, false, false, false, false, false, false, false, false, false] rfl rfl (any_of HT_.out (by kernel_rfl)) (fun _ _ _ h => h) (Or.inl ⟨by rfl, ?_⟩) ?_ ?_
                           rotate_left
                           · intro w'
                             go_simp
                             with_reducible rfl
                           rotate_left
                           · simp only [Act.put, qa_, qz_, qs_, i64_w, i32_w]
                             rfl
                           refine pure_ (i := 4) (N := some 122) (v := ?_) (a' := ?_) #[true, true, true, true, true, false, false, false, false, false, false, false, false, false, false, false, false, false, false] rfl rfl (any_of HT_.out (by kernel_rfl)) (fun _ _ _ h => h) (Or.inl ⟨by rfl, ?_⟩) ?_ ?_
                           rotate_left
                           · intro w'
                             go_simp
                             with_reducible rfl
                           rotate_left
                           · simp only [Act.put, qa_, qz_, qs_, i64_w, i32_w]
                             rfl
                           refine pure_ (i := 6) (N := some 124) (v := ?_) (a' := ?_) #[true, true, true, true, true, false, true, false, false, false, false, false, false, false, false, false, false, false, false] rfl rfl (any_of HT_.out (by kernel_rfl)) (fun _ _ _ h => h) (Or.inl ⟨by rfl, ?_⟩) ?_ ?_
                           rotate_left
                           · intro w'
                             go_simp
                             with_reducible rfl
                           rotate_left
                           · simp only [Act.put, qa_, qz_, qs_, i64_w, i32_w]
                             rfl
                           refine pure_ (i := 7) (N := some 125) (v := ?_) (a' := ?_) #[true, true, true, true, true, false, true, true, false, false, false, false, false, false, false, false, false, false, false] rfl rfl (any_of HT_.out (by kernel_rfl)) (fun _ _ _ h => h) (Or.inl ⟨by rfl, ?_⟩) ?_ ?_
                           rotate_left
                           · intro w'
                             go_simp
                             with_reducible rfl
                           rotate_left
                           · simp only [Act.put, qa_, qz_, qs_, i64_w, i32_w]
                             rfl
                           refine pure_ (i := 8) (N := some 126) (v := ?_) (a' := ?_) #[true, true, true, true, true, false, true, true, true, false, false, false, false, false, false, false, false, false, false] rfl rfl (any_of HT_.out (by kernel_rfl)) (fun _ _ _ h => h) (Or.inl ⟨by rfl, ?_⟩) ?_ ?_
                           rotate_left
                           · intro w'
                             go_simp
                             with_reducible rfl
                           rotate_left
                           · simp only [Act.put, qa_, qz_, qs_, i64_w, i32_w]
                             rfl
                           refine pure_ (i := 9) (N := some 127) (v := ?_) (a' := ?_) #[true, true, true, true, true, false, true, true, true, true, false, false, false, false, false, false, false, false, false] rfl rfl (any_of HT_.out (by kernel_rfl)) (fun _ _ _ h => h) (Or.inl ⟨by rfl, ?_⟩) ?_ ?_
                           rotate_left
                           · intro w'
                             go_simp
                             with_reducible rfl
                           rotate_left
                           · simp only [Act.put, qa_, qz_, qs_, i64_w, i32_w]
                             rfl
                           refine pure_ (i := 10) (N := some 128) (v := ?_) (a' := ?_) #[true, true, true, true, true, false, true, true, true, true, true, false, false, false, false, false, false, false, false] rfl rfl (any_of HT_.out (by kernel_rfl)) (fun _ _ _ h => h) (Or.inl ⟨by rfl, ?_⟩) ?_ ?_
                           rotate_left
                           · intro w'
                             go_simp
                             with_reducible rfl
                           rotate_left
                           · simp only [Act.put, qa_, qz_, qs_, i64_w, i32_w]
                             rfl
                           refine pure_ (i := 11) (N := some 129) (v := ?_) (a' := ?_) #[true, true, true, true, true, false, true, true, true, true, true, true, false, false, false, false, false, false, false] rfl rfl (any_of HT_.out (by kernel_rfl)) (fun _ _ _ h => h) (Or.inl ⟨by rfl, ?_⟩) ?_ ?_
                           rotate_left
                           · intro w'
                             go_simp
                             with_reducible rfl
                           rotate_left
                           · simp only [Act.put, qa_, qz_, qs_, i64_w, i32_w]
                             rfl
                           refine pure_ (i := 13) (N := some 131) (v := ?_) (a' := ?_) #[true, true, true, true, true, false, true, true, true, true, true, true, false, true, false, false, false, false, false] rfl rfl (any_of HT_.out (by kernel_rfl)) (fun _ _ _ h => h) (Or.inl ⟨by rfl, ?_⟩) ?_ ?_
                           rotate_left
                           · intro w'
                             go_simp
                             with_reducible rfl
                           rotate_left
                           · simp only [Act.put, qa_, qz_, qs_, i64_w, i32_w]
                             rfl
                           refine take_ (i := 5) (N := some 123) (v := ?_) (a' := ?_) #[true, true, true, true, true, true, true, true, true, true, true, true, false, true, false, false, false, false, false] rfl rfl (take_ofW HT_.out HW_.out (by kernel_rfl)) (fun _ _ _ h => h) (Or.inl ⟨by rfl, ?_⟩) hHeld ?_ ?_
                           rotate_left
                           · rintro w' ⟨s0, s1⟩
                             go_simp
                             with_reducible rfl
                           rotate_left
                           · simp only [Act.put, qa_, qz_, qs_, i64_w, i32_w]
                             rfl
                           refine take_ (i := 12) (N := some 130) (v := ?_) (a' := ?_) #[true, true, true, true, true, true, true, true, true, true, true, true, true, true, false, false, false, false, false] rfl rfl (take_ofW HT_.out HW_.out (by kernel_rfl)) (fun _ _ _ h => h) (Or.inl ⟨by rfl, ?_⟩) hHeld ?_ ?_
                           rotate_left
                           · rintro w' ⟨s0, s1⟩
                             go_simp
                             with_reducible rfl
                           rotate_left
                           · simp only [Act.put, qa_, qz_, qs_, i64_w, i32_w]
                             rfl
                           refine one_ (i := 14) (N := some 132) #[true, true, true, true, true, true, true, true, true, true, true, true, true, true, true, false, false, false, false] rfl rfl (one_of HT_.out (by kernel_rfl)) (by decide) (fun K hK => ?_)
                           refine goes_ Tryd.func25 (by kernel_rfl) rfl #[.slice A0 l0.length c0, .int .i64 a2, .int .i64 x17_3, .int .i64 (rd x11_2 x17_3), .int .i64 0] (by rfl) rfl rfl (by (try simp only [List.map_toArray, List.map_cons, List.map_nil]); first | done | rfl | (simp only [List.length_drop, List.length_take]; rfl)) ?_
                           with_reducible refine (partitaref26_tops.calls k3 _ _ l0 a2 x17_3 (rd x11_2 x17_3) 0 t222 _ ?side1 ?side2 A79.out).mono ?_
                           (case side1 => repeat (first | exact (Kd.C_below HR0.out HB.out) | (with_reducible refine Kd.C_alloc ?_ _) | (with_reducible refine Kd.C_drewN ?_ _) | (with_reducible refine Kd.C_drew ?_)))
                           (case side2 => exact HC0.out)
                           rintro e w83 ⟨v223, rfl, ho0, hb⟩
                           have HS0_ := (hb.cell (World.block_lt_of_cell? _ _ (hHeld.1))).trans (hHeld.1)
                           have HS1_ := (hb.cell (World.block_lt_of_cell? _ _ (hHeld.2))).trans (hHeld.2)
                           refine ⟨_, rfl, ?_⟩
                           have n0_ := Aside0.mk (Kd.R_elder' (qR HO_11.out) (Kd.R_base ho0) hb)
                           have n1_ := Aside0.mk (Kd.S_elder' (by (with_reducible repeat (first | apply Kd.S_alloc | apply Kd.S_drewN | apply Kd.S_drew)); exact HO_16.out) (Kd.R_base ho0) hb)
                           have n2_ := Aside0.mk (Kd.R_lower (Kd.R_new' ho0 (Kd.R_lt (qR HO_11.out))) (below_size (by repeat (first | (with_reducible first | exact HB.out | apply below_alloc | apply pw_below_drewN | apply below_drew1) | exact HB.out))))
                           have n3_ := Aside0.mk (below_step (by repeat (first | (with_reducible first | exact HB.out | apply below_alloc | apply pw_below_drewN | apply below_drew1) | exact HB.out)) hb)
                           clear HO_11
                           clear HO_16
                           clear HB
                           have HO_11 := n0_
                           have HO_16 := n1_
                           have HO224 := n2_
                           have HB := n3_
                           clear n0_ n1_ n2_ n3_
                           (try clear hb)
                           (try clear hb2)
                           (try clear hk)
                           (try clear hi)
                           (try clear ho0)
                           obtain ⟨Ao84, co84, eo84⟩ := Kd.R_slice HO224.out
                           (first | subst eo84 | (injection eo84 with f1_ f2_ f3_; have f4_ := f1_.symm; have f5_ := f3_.symm; clear f1_ f2_ f3_; subst f4_; subst f5_))
                           refine hK.out _ _ ⟨HS0_, HS1_⟩ (fun hHeld => ?_)
                           clear hK K
                           refine norm_ (a' := ?_) ?_ ?_
                           rotate_left
                           · show Act.put _ (some 132) _ = _
                             simp only [Act.put, qa_, qz_, qs_, i64_w, i32_w]
                             rfl
                           refine pure_ (i := 15) (N := some 133) (v := ?_) (a' := ?_) #[true, true, true, true, true, true, true, true, true, true, true, true, true, true, true, true, false, false, false] rfl rfl (any_of HT_.out (by kernel_rfl)) (fun _ _ _ h => h) (Or.inl ⟨by rfl, ?_⟩) ?_ ?_
                           rotate_left
                           · intro w'
                             go_simp
                             with_reducible rfl
                           rotate_left
                           · simp only [Act.put, qa_, qz_, qs_, i64_w, i32_w]
                             rfl
                           refine last_ (i := 16) (N := some 134) #[true, true, true, true, true, true, true, true, true, true, true, true, true, true, true, true, true, false, false] rfl rfl (one_of HT_.out (by kernel_rfl)) (by decide) (fun K hK => ?_)
                           refine value_ (w1 := ?_) (v := ?_) (by rfl) rfl ?_ ?_
                           rotate_left 2
                           · go_simp
                             constructor
                             · rfl
                             · rfl
                           refine hK.out _ _ ?_
                           clear hK K
                           refine norm_ (a' := ?_) ?_ ?_
                           rotate_left
                           · show Act.put _ (some 134) _ = _
                             simp only [Act.put, qa_, qz_, qs_, i64_w, i32_w]
                             rfl
                           refine last_ (i := 17) (N := some 135) #[true, true, true, true, true, true, true, true, true, true, true, true, true, true, true, true, true, true, false] rfl rfl (one_of HT_.out (by kernel_rfl)) (by decide) (fun K hK => ?_)
                           refine Kd.S_append_step k37 (w0 := w) w.heap.size (by rfl) (.tmp 118) (.tmp 134) 23 37 (.agg #[(.int .i64 0), (.int .i64 0), (.slice none 0 0)]) 40 rfl Tryd.underlying23 info37 rfl (by decide) (by omega) u16 x16_3 (⟨x17_3, rd x11_2 x17_3, t222⟩ : S37) [.int .i64 x17_3, .int .i64 (rd x11_2 x17_3), .slice Ao84 t222.length co84] (fun k_ => some k_ ≠ (.slice (some ad217) x11_2.length co81 : Value).ownBlock) (fun k_ => some k_ = (.slice Ao84 t222.length co84 : Value).ownBlock) rfl rfl ?aP (fun k_ hk_ => ((Kd.R_mono (ok' := fun k_ => ((fun k_ => some k_ ≠ (.slice (some ad217) x11_2.length co81 : Value).ownBlock)) k_ ∧ some k_ ≠ (u16 : Value).ownBlock) (Kd.R_apart' (HO224.out) (Kd.S_typed HO_16.out) (by decide)) (fun k_ hk => ⟨hk.1.2, hk.2⟩))).1 k_ hk_.symm) ?aF ?aO ?aB ?aS ?aL ?_
                           (case aP => exact k37_mkM _ _ _ (⟨x17_3, rd x11_2 x17_3, t222⟩ : S37) (Kd.R_mono (Kd.R_tight rfl (Kd.R_mono (ok' := fun k_ => ((fun k_ => some k_ ≠ (.slice (some ad217) x11_2.length co81 : Value).ownBlock)) k_ ∧ some k_ ≠ (u16 : Value).ownBlock) (Kd.R_apart' (HO224.out) (Kd.S_typed HO_16.out) (by decide)) (fun k_ hk => ⟨hk.1.2, hk.2⟩))) (fun _ h_ => h_)))
                           (case aB => exact (by repeat (first | (with_reducible first | exact HB.out | apply below_alloc | apply pw_below_drewN | apply below_drew1) | exact HB.out)))
                           (case aF => exact (fun k_ hk => Kd.fresh' (Kd.R_lt (qR HO_11.out)) k_ hk))
                           (case aO => exact (by (with_reducible repeat (first | apply Kd.S_alloc | apply Kd.S_drewN | apply Kd.S_drew)); exact Kd.S_mono HO_16.out (fun k_ hk => ⟨hk.1, fun e_ => hk.2 e_⟩)))
                           (case aS => exact (below_size (by repeat (first | (with_reducible first | exact HB.out | apply below_alloc | apply pw_below_drewN | apply below_drew1) | exact HB.out))))
                           (case aL => have := LMc80.out; omega)
                           intro v226 w85 ho hb hg hat
                           rw [← Ny225.out] at ho
                           have n0_ := Aside0.mk (Kd.R_over' (qR HO_11.out) (Kd.S_typed (by (with_reducible repeat (first | apply Kd.S_alloc | apply Kd.S_drewN | apply Kd.S_drew)); exact HO_16.out)) (by decide) hg)
                           have n1_ := Aside0.mk (hb)
                           have n2_ := Aside0.mk (ho)
                           clear HO_11
                           clear HB
                           clear HO_16
                           clear HO224
                           have HO_11 := n0_
                           have HB := n1_
                           have HO227 := n2_
                           clear n0_ n1_ n2_
                           clear ho hb hg hat
                           refine hK.out _ _ ?_
                           clear hK K
                           refine norm_ (a' := ?_) ?_ ?_
                           rotate_left
                           · show Act.put _ (some 135) _ = _
                             simp only [Act.put, qa_, qz_, qs_, i64_w, i32_w]
                             rfl
                           refine pure_ (i := 18) (N := some 16) (v := ?_) (a' := ?_) #[true, true, true, true, true, true, true, true, true, true, true, true, true, true, true, true, true, true, true] rfl rfl (any_of HT_.out (by kernel_rfl)) (fun _ _ _ h => h) (Or.inl ⟨by rfl, ?_⟩) ?_ ?_
                           rotate_left
                           · intro w'
                             go_simp
                             with_reducible rfl
                           rotate_left
                           · simp only [Act.put, qa_, qz_, qs_, i64_w, i32_w]
                             rfl
                           refine done_ (done_of HT_.out (by kernel_rfl)) ?_
                           have p228 : 0 ≤ (x17_3 : Int) := of_decide_eq_true (by first | (with_reducible assumption) | assumption)
                           have q228 : x17_3 < (x11_2.length : Int) := of_decide_eq_true (by first | (with_reducible assumption) | assumption)
                           obtain ⟨ad228, e228, hx228_0⟩ := Kd.at_int (Kd.R_reads' HO_11.out).2.2 x17_3 p228 q228
                           obtain rfl : ad217 = ad228 := (by injection e228)
                           replace p228 := eq_true p228
                           replace q228 := eq_true q228
                           try go_wp2
                           go_roundg k3
                           case measure => have := HK1.out; have := HK2.out; have := HK3.out; omega
                           case rel => exact ⟨(y225), (rd x11_2 x17_3), (by first | rfl | (simp; done) | (simp [*]; done)), H', ⟨by have := HK1.out; have := HK2.out; have := HK3.out; omega⟩, ⟨by (with_reducible repeat (first | apply Kd.R_alloc | apply Kd.R_drewN | apply Kd.R_drew)); exact Kd.R_mono HO_11.out (fun _ hk => trivial)⟩, ⟨by (with_reducible repeat (first | apply Kd.S_alloc | apply Kd.S_drewN | apply Kd.S_drew)); exact HO227.out⟩, ⟨by repeat (first | (with_reducible first | exact HB.out | apply below_alloc | apply pw_below_drewN | apply below_drew1) | exact HB.out)⟩⟩
                         · rw [if_neg c80] at H
                           exact absurd H (by simp)
                       · rw [if_neg c78] at H
                         have c78b0 : ((rd x11_2 x17_3) == (l0.length : Int)) = false := beq_eq_false_iff_ne.mpr c78
                         have c78b1 : ((rd x11_2 x17_3) != (l0.length : Int)) = true := bne_iff_ne.mpr c78
                         replace H := Option.bind_eq_some_iff.mp H
                         obtain ⟨t231, A860, H⟩ := H
                         replace H : (if x16_3.length < 3518437208883 then (partitaref26_Break.l3 k3 l0 a1 a2 (l0.length : Int) x11_2 (x16_3 ++ [(⟨x17_3, rd x11_2 x17_3, t231⟩ : S37)]) (rd x11_2 x17_3)) else (none)) = some (r1, r2) := H
                         have A86 := Aside0.mk A860
                         clear A860
                         by_cases c87 : x16_3.length < 3518437208883
                         · rw [if_pos c87] at H
                           have LMc87 := Aside0.mk c87
                           clear c87
                           obtain ⟨y234, hy234⟩ : ∃ y_ : List (S37), y_ = (x16_3 ++ [(⟨x17_3, rd x11_2 x17_3, t231⟩ : S37)]) := ⟨_, rfl⟩
                           replace H : (partitaref26_Break.l3 k3 l0 a1 a2 (l0.length : Int) x11_2 y234 (rd x11_2 x17_3)) = some (r1, r2) := by first | (rw [hy234]; with_reducible exact H) | (have H2_ := (Option.bind_some _ _).symm.trans H; rw [hy234]; with_reducible exact H2_) | (have H2_ := (Option.bind_some _ _).symm.trans H; with_reducible exact H2_) | with_reducible exact H | (rw [hy234]; exact H) | exact H
                           have Ny234 := Aside0.mk hy234
                           clear hy234
                           have H' := Aside0.mk H
                           clear H
                           obtain ⟨Ao88, co88, eo88⟩ := Kd.R_slice HO_11.out
                           subst eo88
                           have p217 : 0 ≤ (x17_3 : Int) := of_decide_eq_true (by first | (with_reducible assumption) | assumption)
                           have q217 : x17_3 < (x11_2.length : Int) := of_decide_eq_true (by first | (with_reducible assumption) | assumption)
                           obtain ⟨ad217, e217, hx217_0⟩ := Kd.at_int (Kd.R_reads' HO_11.out).2.2 x17_3 p217 q217
                           cases e217
                           replace p217 := eq_true p217
                           replace q217 := eq_true q217
                           try go_wp2_with (first | ((with_reducible refine gate_callee (f := 24) rfl ?_); refine goesL_ (some 111) rfl rfl Tryd.func24 (by kernel_rfl) rfl #[.slice A0 l0.length c0, .int .i64 a1, .int .i64 a2, .int .i64 x17_3, .int .i64 (rd x11_2 x17_3)] rfl (by (try simp only [List.map_toArray, List.map_cons, List.map_nil]); first | done | rfl | (simp only [List.length_drop, List.length_take]; rfl)) ?_; (with_reducible refine (partitaref26_rest.calls k3 _ _ l0 a1 a2 x17_3 (rd x11_2 x17_3) t218 _ ?side1 ?side2 A77.out).mono ?_); (case side1 => repeat (first | exact (Kd.C_below HR0.out HB.out) | (with_reducible refine Kd.C_alloc ?_ _) | (with_reducible refine Kd.C_drewN ?_ _) | (with_reducible refine Kd.C_drew ?_))); (case side2 => exact HC0.out); rintro e w' ⟨rfl, ⟨nd, rfl⟩⟩; refine ⟨_, rfl, ?_⟩; have p219 : 0 ≤ (x17_3 : Int) := of_decide_eq_true (by first | (with_reducible assumption) | assumption); have q219 : x17_3 < (x11_2.length : Int) := of_decide_eq_true (by first | (with_reducible assumption) | assumption); obtain ⟨ad219, e219, hx219_0⟩ := Kd.at_int (Kd.R_reads' HO_11.out).2.2 x17_3 p219 q219; obtain rfl : ad217 = ad219 := (by injection e219); replace p219 := eq_true p219; replace q219 := eq_true q219))
                           (try (rw [drewN_self wr]; generalize hq_ : World.drewN wr _ = wr; have n0_ : Aside0 (Kd.R (Kd.int .i64) 3 wr w.heap.size (fun _ => True) (.slice (some ad217) x11_2.length co88) x11_2) := ⟨by rw [← hq_]; exact (qR HO_11.out)⟩; have n1_ : Aside0 (Kd.S k37 37 wr w.heap.size (fun k_ => some k_ ≠ (.slice (some ad217) x11_2.length co88 : Value).ownBlock) u16 x16_3) := ⟨by rw [← hq_]; exact (by (with_reducible repeat (first | apply Kd.S_alloc | apply Kd.S_drewN | apply Kd.S_drew)); exact HO_16.out)⟩; have n2_ : Aside0 (Below w.heap.size w wr) := ⟨by rw [← hq_]; exact (by repeat (first | (with_reducible first | exact HB.out | apply below_alloc | apply pw_below_drewN | apply below_drew1) | exact HB.out))⟩; clear HO_11 HO_16 HB hq_; have HO_11 := n0_; have HO_16 := n1_; have HB := n2_; clear n0_ n1_ n2_))
                           have n0_ := Aside0.mk (Kd.R_drew HO_11.out)
                           have n1_ := Aside0.mk (Kd.S_drew HO_16.out)
                           have n2_ := Aside0.mk (below_drew1 HB.out)
                           clear HO_11
                           clear HO_16
                           clear HB
                           have HO_11 := n0_
                           have HO_16 := n1_
                           have HB := n2_
                           clear n0_ n1_ n2_
                           have p229 : 0 ≤ (x17_3 : Int) := of_decide_eq_true (by first | (with_reducible assumption) | assumption)
                           have q229 : x17_3 < (x11_2.length : Int) := of_decide_eq_true (by first | (with_reducible assumption) | assumption)
                           obtain ⟨ad229, e229, hx229_0⟩ := Kd.at_int (Kd.R_reads' HO_11.out).2.2 x17_3 p229 q229
                           obtain rfl : ad217 = ad229 := (by injection e229)
                           replace p229 := eq_true p229
                           replace q229 := eq_true q229
                           have p230 : 0 ≤ (x17_3 : Int) := of_decide_eq_true (by first | (with_reducible assumption) | assumption)
                           have q230 : x17_3 < (x11_2.length : Int) := of_decide_eq_true (by first | (with_reducible assumption) | assumption)
                           obtain ⟨ad230, e230, hx230_0⟩ := Kd.at_int (Kd.R_reads' HO_11.out).2.2 x17_3 p230 q230
                           obtain rfl : ad217 = ad230 := (by injection e230)
                           replace p230 := eq_true p230
                           replace q230 := eq_true q230
                           refine start_ (n := 19) (S := fun w' => w'.cell? (ad217.add (x17_3).toNat) = some (.int .i64 (rd x11_2 x17_3)) ∧ w'.cell? (ad217.add (x17_3).toNat) = some (.int .i64 (rd x11_2 x17_3))) (ds := [16, 17]) #[false, false, false, false, false, false, false, false, false, false, false, false, false, false, false, false, false, false, false] (by kernel_rfl) rfl rfl ⟨hx229_0, hx230_0⟩ (fun hHeld => ?_); refine with_tabW partitaref26_Break.tab32 partitaref26_Break.bits32 (fun HT_ HW_ => ?_)
                           generalize wr.drew = w89 at HO_11 HO_16 HB hx229_0 hx230_0 hHeld ⊢
                           refine pure_ (i := 0) (N := some 118) (v := ?_) (a' := ?_) #[true, false, false, false, false, false, false, false, false, false, false, false, false, false, false, false, false, false, false] rfl rfl (any_of HT_.out (by kernel_rfl)) (fun _ _ _ h => h) (Or.inl ⟨by rfl, ?_⟩) ?_ ?_
                           rotate_left
                           · intro w'
                             go_simp
                             with_reducible rfl
                           rotate_left
                           · simp only [Act.put, qa_, qz_, qs_, i64_w, i32_w]
                             rfl
                           refine pure_ (i := 1) (N := some 119) (v := ?_) (a' := ?_) #[true, true, false, false, false, false, false, false, false, false, false, false, false, false, false, false, false, false, false] rfl rfl (any_of HT_.out (by kernel_rfl)) (fun _ _ _ h => h) (Or.inl ⟨by rfl, ?_⟩) ?_ ?_
                           rotate_left
                           · intro w'
                             go_simp
                             with_reducible rfl
                           rotate_left
                           · simp only [Act.put, qa_, qz_, qs_, i64_w, i32_w]
                             rfl
                           refine pure_ (i := 2) (N := some 120) (v := ?_) (a' := ?_) #[true, true, true, false, false, false, false, false, false, false, false, false, false, false, false, false, false, false, false] rfl rfl (any_of HT_.out (by kernel_rfl)) (fun _ _ _ h => h) (Or.inl ⟨by rfl, ?_⟩) ?_ ?_
                           rotate_left
                           · intro w'
                             go_simp
                             with_reducible rfl
                           rotate_left
                           · simp only [Act.put, qa_, qz_, qs_, i64_w, i32_w]
                             rfl
                           refine pure_ (i := 3) (N := some 121) (v := ?_) (a' := ?_) #[true, true, true, true, false, false, false, false, false, false, false, false, false, false, false, false, false, false, false] rfl rfl (any_of HT_.out (by kernel_rfl)) (fun _ _ _ h => h) (Or.inl ⟨by rfl, ?_⟩) ?_ ?_
                           rotate_left
                           · intro w'
                             go_simp
                             with_reducible rfl
                           rotate_left
                           · simp only [Act.put, qa_, qz_, qs_, i64_w, i32_w]
                             rfl
                           refine pure_ (i := 4) (N := some 122) (v := ?_) (a' := ?_) #[true, true, true, true, true, false, false, false, false, false, false, false, false, false, false, false, false, false, false] rfl rfl (any_of HT_.out (by kernel_rfl)) (fun _ _ _ h => h) (Or.inl ⟨by rfl, ?_⟩) ?_ ?_
                           rotate_left
                           · intro w'
                             go_simp
                             with_reducible rfl
                           rotate_left
                           · simp only [Act.put, qa_, qz_, qs_, i64_w, i32_w]
                             rfl
                           refine pure_ (i := 6) (N := some 124) (v := ?_) (a' := ?_) #[true, true, true, true, true, false, true, false, false, false, false, false, false, false, false, false, false, false, false] rfl rfl (any_of HT_.out (by kernel_rfl)) (fun _ _ _ h => h) (Or.inl ⟨by rfl, ?_⟩) ?_ ?_
                           rotate_left
                           · intro w'
                             go_simp
                             with_reducible rfl
                           rotate_left
                           · simp only [Act.put, qa_, qz_, qs_, i64_w, i32_w]
                             rfl
                           refine pure_ (i := 7) (N := some 125) (v := ?_) (a' := ?_) #[true, true, true, true, true, false, true, true, false, false, false, false, false, false, false, false, false, false, false] rfl rfl (any_of HT_.out (by kernel_rfl)) (fun _ _ _ h => h) (Or.inl ⟨by rfl, ?_⟩) ?_ ?_
                           rotate_left
                           · intro w'
                             go_simp
                             with_reducible rfl
                           rotate_left
                           · simp only [Act.put, qa_, qz_, qs_, i64_w, i32_w]
                             rfl
                           refine pure_ (i := 8) (N := some 126) (v := ?_) (a' := ?_) #[true, true, true, true, true, false, true, true, true, false, false, false, false, false, false, false, false, false, false] rfl rfl (any_of HT_.out (by kernel_rfl)) (fun _ _ _ h => h) (Or.inl ⟨by rfl, ?_⟩) ?_ ?_
                           rotate_left
                           · intro w'
                             go_simp
                             with_reducible rfl
                           rotate_left
                           · simp only [Act.put, qa_, qz_, qs_, i64_w, i32_w]
                             rfl
                           refine pure_ (i := 9) (N := some 127) (v := ?_) (a' := ?_) #[true, true, true, true, true, false, true, true, true, true, false, false, false, false, false, false, false, false, false] rfl rfl (any_of HT_.out (by kernel_rfl)) (fun _ _ _ h => h) (Or.inl ⟨by rfl, ?_⟩) ?_ ?_
                           rotate_left
                           · intro w'
                             go_simp
                             with_reducible rfl
                           rotate_left
                           · simp only [Act.put, qa_, qz_, qs_, i64_w, i32_w]
                             rfl
                           refine pure_ (i := 10) (N := some 128) (v := ?_) (a' := ?_) #[true, true, true, true, true, false, true, true, true, true, true, false, false, false, false, false, false, false, false] rfl rfl (any_of HT_.out (by kernel_rfl)) (fun _ _ _ h => h) (Or.inl ⟨by rfl, ?_⟩) ?_ ?_
                           rotate_left
                           · intro w'
                             go_simp
                             with_reducible rfl
                           rotate_left
                           · simp only [Act.put, qa_, qz_, qs_, i64_w, i32_w]
                             rfl
                           refine pure_ (i := 11) (N := some 129) (v := ?_) (a' := ?_) #[true, true, true, true, true, false, true, true, true, true, true, true, false, false, false, false, false, false, false] rfl rfl (any_of HT_.out (by kernel_rfl)) (fun _ _ _ h => h) (Or.inl ⟨by rfl, ?_⟩) ?_ ?_
                           rotate_left
                           · intro w'
                             go_simp
                             with_reducible rfl
                           rotate_left
                           · simp only [Act.put, qa_, qz_, qs_, i64_w, i32_w]
                             rfl
                           refine pure_ (i := 13) (N := some 131) (v := ?_) (a' := ?_) #[true, true, true, true, true, false, true, true, true, true, true, true, false, true, false, false, false, false, false] rfl rfl (any_of HT_.out (by kernel_rfl)) (fun _ _ _ h => h) (Or.inl ⟨by rfl, ?_⟩) ?_ ?_
                           rotate_left
                           · intro w'
                             go_simp
                             with_reducible rfl
                           rotate_left
                           · simp only [Act.put, qa_, qz_, qs_, i64_w, i32_w]
                             rfl
                           refine take_ (i := 5) (N := some 123) (v := ?_) (a' := ?_) #[true, true, true, true, true, true, true, true, true, true, true, true, false, true, false, false, false, false, false] rfl rfl (take_ofW HT_.out HW_.out (by kernel_rfl)) (fun _ _ _ h => h) (Or.inl ⟨by rfl, ?_⟩) hHeld ?_ ?_
                           rotate_left
                           · rintro w' ⟨s0, s1⟩
                             go_simp
                             with_reducible rfl
                           rotate_left
                           · simp only [Act.put, qa_, qz_, qs_, i64_w, i32_w]
                             rfl
                           refine take_ (i := 12) (N := some 130) (v := ?_) (a' := ?_) #[true, true, true, true, true, true, true, true, true, true, true, true, true, true, false, false, false, false, false] rfl rfl (take_ofW HT_.out HW_.out (by kernel_rfl)) (fun _ _ _ h => h) (Or.inl ⟨by rfl, ?_⟩) hHeld ?_ ?_
                           rotate_left
                           · rintro w' ⟨s0, s1⟩
                             go_simp
                             with_reducible rfl
                           rotate_left
                           · simp only [Act.put, qa_, qz_, qs_, i64_w, i32_w]
                             rfl
                           refine one_ (i := 14) (N := some 132) #[true, true, true, true, true, true, true, true, true, true, true, true, true, true, true, false, false, false, false] rfl rfl (one_of HT_.out (by kernel_rfl)) (by decide) (fun K hK => ?_)
                           refine goes_ Tryd.func25 (by kernel_rfl) rfl #[.slice A0 l0.length c0, .int .i64 a2, .int .i64 x17_3, .int .i64 (rd x11_2 x17_3), .int .i64 t218] (by rfl) rfl rfl (by (try simp only [List.map_toArray, List.map_cons, List.map_nil]); first | done | rfl | (simp only [List.length_drop, List.length_take]; rfl)) ?_
                           with_reducible refine (partitaref26_tops.calls k3 _ _ l0 a2 x17_3 (rd x11_2 x17_3) t218 t231 _ ?side1 ?side2 A86.out).mono ?_
                           (case side1 => repeat (first | exact (Kd.C_below HR0.out HB.out) | (with_reducible refine Kd.C_alloc ?_ _) | (with_reducible refine Kd.C_drewN ?_ _) | (with_reducible refine Kd.C_drew ?_)))
                           (case side2 => exact HC0.out)
                           rintro e w90 ⟨v232, rfl, ho0, hb⟩
                           have HS0_ := (hb.cell (World.block_lt_of_cell? _ _ (hHeld.1))).trans (hHeld.1)
                           have HS1_ := (hb.cell (World.block_lt_of_cell? _ _ (hHeld.2))).trans (hHeld.2)
                           refine ⟨_, rfl, ?_⟩
                           have n0_ := Aside0.mk (Kd.R_elder' (qR HO_11.out) (Kd.R_base ho0) hb)
                           have n1_ := Aside0.mk (Kd.S_elder' (by (with_reducible repeat (first | apply Kd.S_alloc | apply Kd.S_drewN | apply Kd.S_drew)); exact HO_16.out) (Kd.R_base ho0) hb)
                           have n2_ := Aside0.mk (Kd.R_lower (Kd.R_new' ho0 (Kd.R_lt (qR HO_11.out))) (below_size (by repeat (first | (with_reducible first | exact HB.out | apply below_alloc | apply pw_below_drewN | apply below_drew1) | exact HB.out))))
                           have n3_ := Aside0.mk (below_step (by repeat (first | (with_reducible first | exact HB.out | apply below_alloc | apply pw_below_drewN | apply below_drew1) | exact HB.out)) hb)
                           clear HO_11
                           clear HO_16
                           clear HB
                           have HO_11 := n0_
                           have HO_16 := n1_
                           have HO233 := n2_
                           have HB := n3_
                           clear n0_ n1_ n2_ n3_
                           (try clear hb)
                           (try clear hb2)
                           (try clear hk)
                           (try clear hi)
                           (try clear ho0)
                           obtain ⟨Ao91, co91, eo91⟩ := Kd.R_slice HO233.out
                           (first | subst eo91 | (injection eo91 with f1_ f2_ f3_; have f4_ := f1_.symm; have f5_ := f3_.symm; clear f1_ f2_ f3_; subst f4_; subst f5_))
                           refine hK.out _ _ ⟨HS0_, HS1_⟩ (fun hHeld => ?_)
                           clear hK K
                           refine norm_ (a' := ?_) ?_ ?_
                           rotate_left
                           · show Act.put _ (some 132) _ = _
                             simp only [Act.put, qa_, qz_, qs_, i64_w, i32_w]
                             rfl
                           refine pure_ (i := 15) (N := some 133) (v := ?_) (a' := ?_) #[true, true, true, true, true, true, true, true, true, true, true, true, true, true, true, true, false, false, false] rfl rfl (any_of HT_.out (by kernel_rfl)) (fun _ _ _ h => h) (Or.inl ⟨by rfl, ?_⟩) ?_ ?_
                           rotate_left
                           · intro w'
                             go_simp
                             with_reducible rfl
                           rotate_left
                           · simp only [Act.put, qa_, qz_, qs_, i64_w, i32_w]
                             rfl
                           refine last_ (i := 16) (N := some 134) #[true, true, true, true, true, true, true, true, true, true, true, true, true, true, true, true, true, false, false] rfl rfl (one_of HT_.out (by kernel_rfl)) (by decide) (fun K hK => ?_)
                           refine value_ (w1 := ?_) (v := ?_) (by rfl) rfl ?_ ?_
                           rotate_left 2
                           · go_simp
                             constructor
                             · rfl
                             · rfl
                           refine hK.out _ _ ?_
                           clear hK K
                           refine norm_ (a' := ?_) ?_ ?_
                           rotate_left
                           · show Act.put _ (some 134) _ = _
                             simp only [Act.put, qa_, qz_, qs_, i64_w, i32_w]
                             rfl
                           refine last_ (i := 17) (N := some 135) #[true, true, true, true, true, true, true, true, true, true, true, true, true, true, true, true, true, true, false] rfl rfl (one_of HT_.out (by kernel_rfl)) (by decide) (fun K hK => ?_)
                           refine Kd.S_append_step k37 (w0 := w) w.heap.size (by rfl) (.tmp 118) (.tmp 134) 23 37 (.agg #[(.int .i64 0), (.int .i64 0), (.slice none 0 0)]) 40 rfl Tryd.underlying23 info37 rfl (by decide) (by omega) u16 x16_3 (⟨x17_3, rd x11_2 x17_3, t231⟩ : S37) [.int .i64 x17_3, .int .i64 (rd x11_2 x17_3), .slice Ao91 t231.length co91] (fun k_ => some k_ ≠ (.slice (some ad217) x11_2.length co88 : Value).ownBlock) (fun k_ => some k_ = (.slice Ao91 t231.length co91 : Value).ownBlock) rfl rfl ?aP (fun k_ hk_ => ((Kd.R_mono (ok' := fun k_ => ((fun k_ => some k_ ≠ (.slice (some ad217) x11_2.length co88 : Value).ownBlock)) k_ ∧ some k_ ≠ (u16 : Value).ownBlock) (Kd.R_apart' (HO233.out) (Kd.S_typed HO_16.out) (by decide)) (fun k_ hk => ⟨hk.1.2, hk.2⟩))).1 k_ hk_.symm) ?aF ?aO ?aB ?aS ?aL ?_
                           (case aP => exact k37_mkM _ _ _ (⟨x17_3, rd x11_2 x17_3, t231⟩ : S37) (Kd.R_mono (Kd.R_tight rfl (Kd.R_mono (ok' := fun k_ => ((fun k_ => some k_ ≠ (.slice (some ad217) x11_2.length co88 : Value).ownBlock)) k_ ∧ some k_ ≠ (u16 : Value).ownBlock) (Kd.R_apart' (HO233.out) (Kd.S_typed HO_16.out) (by decide)) (fun k_ hk => ⟨hk.1.2, hk.2⟩))) (fun _ h_ => h_)))
                           (case aB => exact (by repeat (first | (with_reducible first | exact HB.out | apply below_alloc | apply pw_below_drewN | apply below_drew1) | exact HB.out)))
                           (case aF => exact (fun k_ hk => Kd.fresh' (Kd.R_lt (qR HO_11.out)) k_ hk))
                           (case aO => exact (by (with_reducible repeat (first | apply Kd.S_alloc | apply Kd.S_drewN | apply Kd.S_drew)); exact Kd.S_mono HO_16.out (fun k_ hk => ⟨hk.1, fun e_ => hk.2 e_⟩)))
                           (case aS => exact (below_size (by repeat (first | (with_reducible first | exact HB.out | apply below_alloc | apply pw_below_drewN | apply below_drew1) | exact HB.out))))
                           (case aL => have := LMc87.out; omega)
                           intro v235 w92 ho hb hg hat
                           rw [← Ny234.out] at ho
                           have n0_ := Aside0.mk (Kd.R_over' (qR HO_11.out) (Kd.S_typed (by (with_reducible repeat (first | apply Kd.S_alloc | apply Kd.S_drewN | apply Kd.S_drew)); exact HO_16.out)) (by decide) hg)
                           have n1_ := Aside0.mk (hb)
                           have n2_ := Aside0.mk (ho)
                           clear HO_11
                           clear HB
                           clear HO_16
                           clear HO233
                           have HO_11 := n0_
                           have HB := n1_
                           have HO236 := n2_
                           clear n0_ n1_ n2_
                           clear ho hb hg hat
                           refine hK.out _ _ ?_
                           clear hK K
                           refine norm_ (a' := ?_) ?_ ?_
                           rotate_left
                           · show Act.put _ (some 135) _ = _
                             simp only [Act.put, qa_, qz_, qs_, i64_w, i32_w]
                             rfl
                           refine pure_ (i := 18) (N := some 16) (v := ?_) (a' := ?_) #[true, true, true, true, true, true, true, true, true, true, true, true, true, true, true, true, true, true, true] rfl rfl (any_of HT_.out (by kernel_rfl)) (fun _ _ _ h => h) (Or.inl ⟨by rfl, ?_⟩) ?_ ?_
                           rotate_left
                           · intro w'
                             go_simp
                             with_reducible rfl
                           rotate_left
                           · simp only [Act.put, qa_, qz_, qs_, i64_w, i32_w]
                             rfl
                           refine done_ (done_of HT_.out (by kernel_rfl)) ?_
                           have p237 : 0 ≤ (x17_3 : Int) := of_decide_eq_true (by first | (with_reducible assumption) | assumption)
                           have q237 : x17_3 < (x11_2.length : Int) := of_decide_eq_true (by first | (with_reducible assumption) | assumption)
                           obtain ⟨ad237, e237, hx237_0⟩ := Kd.at_int (Kd.R_reads' HO_11.out).2.2 x17_3 p237 q237
                           obtain rfl : ad217 = ad237 := (by injection e237)
                           replace p237 := eq_true p237
                           replace q237 := eq_true q237
                           try go_wp2
                           go_roundg k3
                           case measure => have := HK1.out; have := HK2.out; have := HK3.out; omega
                           case rel => exact ⟨(y234), (rd x11_2 x17_3), (by first | rfl | (simp; done) | (simp [*]; done)), H', ⟨by have := HK1.out; have := HK2.out; have := HK3.out; omega⟩, ⟨by (with_reducible repeat (first | apply Kd.R_alloc | apply Kd.R_drewN | apply Kd.R_drew)); exact Kd.R_mono HO_11.out (fun _ hk => trivial)⟩, ⟨by (with_reducible repeat (first | apply Kd.S_alloc | apply Kd.S_drewN | apply Kd.S_drew)); exact HO236.out⟩, ⟨by repeat (first | (with_reducible first | exact HB.out | apply below_alloc | apply pw_below_drewN | apply below_drew1) | exact HB.out)⟩⟩
                         · rw [if_neg c87] at H
                           exact absurd H (by simp)
                     · rw [if_neg c76] at H
                       exact absurd H (by simp)
                   · rw [if_neg c75] at H
                     exact absurd H (by simp)
                 · rw [if_neg c74] at H
                   have c74b0 : decide (x17_3 < (l0.length : Int)) = false := decide_eq_false c74
                   clear c74
                   simp only [Option.some.injEq, Prod.mk.injEq] at H
                   obtain ⟨rfl, rfl⟩ := H
                   go_wp2
                   go_ret2
                   exact ⟨_, by first | rfl | (simp [errW_none, errW_some] <;> rfl) | (simp only [← hji10]; first | rfl | (simp [errW_none, errW_some] <;> rfl)) | (simp [*, errW_none, errW_some] <;> rfl), by (with_reducible repeat (first | apply Kd.S_alloc | apply Kd.S_drewN | apply Kd.S_drew)); exact Kd.S_mono HO_16.out (fun _ hk => trivial), by repeat (first | (with_reducible first | exact HB.out | apply below_alloc | apply pw_below_drewN | apply below_drew1) | exact HB.out)⟩
         · rw [if_neg c12] at H
           exact absurd H (by simp)
       · rw [if_neg c11] at H
         exact absurd H (by simp)
 · replace c5 := Bool.eq_false_iff.mpr c5
   subst c5
   have H1 : (some (([] : List (S37)), 2)) = some (r1, r2) := by rw [if_neg (show ¬ (false = true) by decide)] at H; exact H
   clear H
   have H := H1
   clear H1
   simp only [Option.some.injEq, Prod.mk.injEq] at H
   obtain ⟨rfl, rfl⟩ := H
   go_enter Tryd.func13, Tryd.ntmps13
   go_wp2_with (first | ((with_reducible refine gate_callee (f := 23) rfl ?_); refine goesL_ (some 22) rfl rfl Tryd.func23 (by kernel_rfl) rfl #[.slice A0 l0.length c0, .int .i64 a1, .int .i64 a2] rfl (by (try simp only [List.map_toArray, List.map_cons, List.map_nil]); first | done | rfl | (simp only [List.length_drop, List.length_take]; rfl)) ?_; (with_reducible refine (partitaref26_lay.calls k _ _ l0 a1 a2 false _ ?side1 ?side2 A4.out).mono ?_); (case side1 => repeat (first | exact HR0.out | (with_reducible refine Kd.C_alloc ?_ _) | (with_reducible refine Kd.C_drewN ?_ _) | (with_reducible refine Kd.C_drew ?_))); (case side2 => exact HC0.out); rintro e w' ⟨rfl, ⟨nd, rfl⟩⟩; refine ⟨_, rfl, ?_⟩))
   go_ret2
   exact ⟨_, by first | rfl | (simp [errW_none, errW_some] <;> rfl) | (simp [*, errW_none, errW_some] <;> rfl), by first | exact Kd.S_nil _ _ _ _ _ | exact Kd.N_nil _ _ _ _ _ | exact Kd.V_nil _ _ _ _ _ | exact Kd.Q_nil _ _ _ _ _ | exact Kd.R_nil _ _ _ _ _, by repeat (first | (with_reducible first | exact HB.out | apply below_alloc | apply pw_below_drewN | apply below_drew1) | exact HB.out)⟩

end Go.Proofs.YtbpcilbplgbonaaDoor.Q
