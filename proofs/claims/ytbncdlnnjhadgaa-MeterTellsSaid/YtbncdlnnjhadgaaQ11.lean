-- Written by a program of this session (myprint.py), function by function.
import Derived.Test.YtbncdlnnjhadgaaQ0
import Derived.Test.YtbncdlnnjhadgaaQ7
import Derived.Test.YtbncdlnnjhadgaaQ8
import Derived.Test.YtbncdlnnjhadgaaQ9
import Derived.Test.YtbncdlnnjhadgaaQ10
namespace Go.Proofs.Ytbncdlnnjhadgaa.Q
open Go.RowKit Go.Proofs.YtbncdlnnjhadgaaW.PrintWords Go.Proofs.YtbncdlnnjhadgaaW.PrintLast Go.Proofs.YtbncdlnnjhadgaaW.PrintMore
attribute [local go_sem] max2_int min2_int max_two min_two max_three min_three max_four min_four   -- for this text's walks alone
set_option linter.unusedVariables false
set_option linter.unusedSimpArgs false

/-! ### partitaref05_Cut: function 25 -/
mutual
def partitaref05_Cut.j0 : Nat → List (S26) → Bool → Int → Int → List Int → Int → Int → Int → Int → Option ((List (S26)) × Int)
 | 0, _, _, _, _, _, _, _, _, _ => none
 | k + 1, x8, x45, x213000, x213001, x213002, x214000, x214001, x215000, x215001 => if x45 = true then (some (([] : List (S26)), 2)) else ((partitaref01_Add.f k x214000 x214001 x215000 x215001).bind fun bt221 => (if bt221.2.2 = 0 then ((partitaref05_Length.f k x213000 x213001 x213002).bind fun bt225 => ((partitaref01_Compare.f k bt221.1 bt221.2.1 bt225.1 bt225.2.1).bind fun t229 => (if t229 > 0 then (some (([] : List (S26)), 2)) else (partitaref05_Cut.l0 k x8 (([(⟨x214000, x214001⟩ : S26)] : List (S26))) 0 x214000 x214001 bt221.1 bt221.2.1)))) else (some (([] : List (S26)), bt221.2.2))))
def partitaref05_Cut.l0 : Nat → List (S26) → List (S26) → Int → Int → Int → Int → Int → Option ((List (S26)) × Int)
 | 0, _, _, _, _, _, _, _ => none
 | k + 1, x8, x16, x17, x214000, x214001, x225000, x225001 => if x17 < (x8.length : Int) then (if 0 ≤ x17 then ((partitaref01_Compare.f k ((rd_T26 x8 x17).f0) ((rd_T26 x8 x17).f1) x214000 x214001).bind fun t234 => (if t234 > 0 then ((partitaref01_Compare.f k ((rd_T26 x8 x17).f0) ((rd_T26 x8 x17).f1) x225000 x225001).bind fun t236 => (if t236 < 0 then (if x16.length < 8796093022208 then (partitaref05_Cut.l0 k x8 (x16 ++ [(⟨(rd_T26 x8 x17).f0, (rd_T26 x8 x17).f1⟩ : S26)]) (wrap64 (x17 + 1)) x214000 x214001 x225000 x225001) else (none)) else (partitaref05_Cut.l0 k x8 x16 (wrap64 (x17 + 1)) x214000 x214001 x225000 x225001))) else (partitaref05_Cut.l0 k x8 x16 (wrap64 (x17 + 1)) x214000 x214001 x225000 x225001))) else (none)) else (if x16.length < 8796093022208 then (partitaref05_Cut.l1 k (x16 ++ [(⟨x225000, x225001⟩ : S26)]) ([] : List (S26)) 1) else (none))
def partitaref05_Cut.l1 : Nat → List (S26) → List (S26) → Int → Option ((List (S26)) × Int)
 | 0, _, _, _ => none
 | k + 1, x16, x18, x19 => if x19 < (x16.length : Int) then (if 0 ≤ x19 then (if 0 ≤ (wrap64 (x19 - 1)) then (if (wrap64 (x19 - 1)) < (x16.length : Int) then ((partitaref01_Sub.f k ((rd_T26 x16 x19).f0) ((rd_T26 x16 x19).f1) ((rd_T26 x16 (wrap64 (x19 - 1))).f0) ((rd_T26 x16 (wrap64 (x19 - 1))).f1)).bind fun bt246 => (if bt246.2.2 = 0 then (if x18.length < 8796093022208 then (partitaref05_Cut.l1 k x16 (x18 ++ [(⟨bt246.1, bt246.2.1⟩ : S26)]) (wrap64 (x19 + 1))) else (none)) else (some (([] : List (S26)), bt246.2.2)))) else (none)) else (none)) else (none)) else (some (x18, 0))
end
def partitaref05_Cut.f (k : Nat) (a0_0 : Int) (a0_1 : Int) (l0_2 : List Int) (a1_0 : Int) (a1_1 : Int) (a2_0 : Int) (a2_1 : Int) : Option ((List (S26)) × Int) := (partitaref05_Beats.f k a0_0 a0_1 l0_2).bind fun bt215 => (if bt215.2 = 0 then ((partitaref05_within.f k a0_0 a0_1 l0_2 a1_0 a1_1).bind fun t219 => ((partitaref01_Right.f k a2_0 a2_1).bind fun t220 => (if t219 = true then (if t220 = true then (partitaref05_Cut.j0 k bt215.1 (decide (a2_0 ≤ 0)) a0_0 a0_1 l0_2 a1_0 a1_1 a2_0 a2_1) else (partitaref05_Cut.j0 k bt215.1 true a0_0 a0_1 l0_2 a1_0 a1_1 a2_0 a2_1)) else (partitaref05_Cut.j0 k bt215.1 true a0_0 a0_1 l0_2 a1_0 a1_1 a2_0 a2_1)))) else (some (([] : List (S26)), bt215.2)))
theorem partitaref05_Cut.mono_l : ∀ k, (∀ y0 y1 y2 y3 y4 y5 y6 y7 y8, LeO (partitaref05_Cut.j0 k y0 y1 y2 y3 y4 y5 y6 y7 y8) (partitaref05_Cut.j0 (k + 1) y0 y1 y2 y3 y4 y5 y6 y7 y8)) ∧ (∀ y0 y1 y2 y3 y4 y5 y6, LeO (partitaref05_Cut.l0 k y0 y1 y2 y3 y4 y5 y6) (partitaref05_Cut.l0 (k + 1) y0 y1 y2 y3 y4 y5 y6)) ∧ (∀ y0 y1 y2, LeO (partitaref05_Cut.l1 k y0 y1 y2) (partitaref05_Cut.l1 (k + 1) y0 y1 y2))
 | 0 => ⟨fun _ _ _ _ _ _ _ _ _ r h => by simp [partitaref05_Cut.j0] at h, fun _ _ _ _ _ _ _ r h => by simp [partitaref05_Cut.l0] at h, fun _ _ _ r h => by simp [partitaref05_Cut.l1] at h⟩
 | k + 1 => by
  obtain ⟨ih0, ih1, ih2⟩ := partitaref05_Cut.mono_l k
  refine ⟨?_, ?_, ?_⟩
  · intro y0 y1 y2 y3 y4 y5 y6 y7 y8
    unfold partitaref05_Cut.j0
    repeat' first
    | (with_reducible exact ih0 _ _ _ _ _ _ _ _ _)
    | (with_reducible exact ih1 _ _ _ _ _ _ _)
    | (with_reducible exact ih2 _ _ _)
    | (with_reducible exact partitaref01_Add.mono _ _ _ _ _)
    | (with_reducible exact partitaref01_Compare.mono _ _ _ _ _)
    | (with_reducible exact partitaref01_Right.mono _ _ _)
    | (with_reducible exact partitaref01_Sub.mono _ _ _ _ _)
    | (with_reducible exact partitaref05_Beats.mono _ _ _ _)
    | (with_reducible exact partitaref05_Length.mono _ _ _ _)
    | (with_reducible exact partitaref05_within.mono _ _ _ _ _ _)
    | (with_reducible exact LeO.refl _)
    | (with_reducible exact LeO.none _)
    | (with_reducible refine LeO.ite ?_ ?_)
    | (with_reducible refine LeO.bind ?_ (fun _ => ?_))
    | exact ih0 _ _ _ _ _ _ _ _ _
    | exact ih1 _ _ _ _ _ _ _
    | exact ih2 _ _ _
    | exact partitaref01_Add.mono _ _ _ _ _
    | exact partitaref01_Compare.mono _ _ _ _ _
    | exact partitaref01_Right.mono _ _ _
    | exact partitaref01_Sub.mono _ _ _ _ _
    | exact partitaref05_Beats.mono _ _ _ _
    | exact partitaref05_Length.mono _ _ _ _
    | exact partitaref05_within.mono _ _ _ _ _ _
    | exact LeO.none _
    | refine LeO.ite ?_ ?_
    | refine LeO.bind ?_ (fun _ => ?_)
  · intro y0 y1 y2 y3 y4 y5 y6
    unfold partitaref05_Cut.l0
    repeat' first
    | (with_reducible exact ih0 _ _ _ _ _ _ _ _ _)
    | (with_reducible exact ih1 _ _ _ _ _ _ _)
    | (with_reducible exact ih2 _ _ _)
    | (with_reducible exact partitaref01_Add.mono _ _ _ _ _)
    | (with_reducible exact partitaref01_Compare.mono _ _ _ _ _)
    | (with_reducible exact partitaref01_Right.mono _ _ _)
    | (with_reducible exact partitaref01_Sub.mono _ _ _ _ _)
    | (with_reducible exact partitaref05_Beats.mono _ _ _ _)
    | (with_reducible exact partitaref05_Length.mono _ _ _ _)
    | (with_reducible exact partitaref05_within.mono _ _ _ _ _ _)
    | (with_reducible exact LeO.refl _)
    | (with_reducible exact LeO.none _)
    | (with_reducible refine LeO.ite ?_ ?_)
    | (with_reducible refine LeO.bind ?_ (fun _ => ?_))
    | exact ih0 _ _ _ _ _ _ _ _ _
    | exact ih1 _ _ _ _ _ _ _
    | exact ih2 _ _ _
    | exact partitaref01_Add.mono _ _ _ _ _
    | exact partitaref01_Compare.mono _ _ _ _ _
    | exact partitaref01_Right.mono _ _ _
    | exact partitaref01_Sub.mono _ _ _ _ _
    | exact partitaref05_Beats.mono _ _ _ _
    | exact partitaref05_Length.mono _ _ _ _
    | exact partitaref05_within.mono _ _ _ _ _ _
    | exact LeO.none _
    | refine LeO.ite ?_ ?_
    | refine LeO.bind ?_ (fun _ => ?_)
  · intro y0 y1 y2
    unfold partitaref05_Cut.l1
    repeat' first
    | (with_reducible exact ih0 _ _ _ _ _ _ _ _ _)
    | (with_reducible exact ih1 _ _ _ _ _ _ _)
    | (with_reducible exact ih2 _ _ _)
    | (with_reducible exact partitaref01_Add.mono _ _ _ _ _)
    | (with_reducible exact partitaref01_Compare.mono _ _ _ _ _)
    | (with_reducible exact partitaref01_Right.mono _ _ _)
    | (with_reducible exact partitaref01_Sub.mono _ _ _ _ _)
    | (with_reducible exact partitaref05_Beats.mono _ _ _ _)
    | (with_reducible exact partitaref05_Length.mono _ _ _ _)
    | (with_reducible exact partitaref05_within.mono _ _ _ _ _ _)
    | (with_reducible exact LeO.refl _)
    | (with_reducible exact LeO.none _)
    | (with_reducible refine LeO.ite ?_ ?_)
    | (with_reducible refine LeO.bind ?_ (fun _ => ?_))
    | exact ih0 _ _ _ _ _ _ _ _ _
    | exact ih1 _ _ _ _ _ _ _
    | exact ih2 _ _ _
    | exact partitaref01_Add.mono _ _ _ _ _
    | exact partitaref01_Compare.mono _ _ _ _ _
    | exact partitaref01_Right.mono _ _ _
    | exact partitaref01_Sub.mono _ _ _ _ _
    | exact partitaref05_Beats.mono _ _ _ _
    | exact partitaref05_Length.mono _ _ _ _
    | exact partitaref05_within.mono _ _ _ _ _ _
    | exact LeO.none _
    | refine LeO.ite ?_ ?_
    | refine LeO.bind ?_ (fun _ => ?_)
theorem partitaref05_Cut.mono : ∀ a0 a1 a2 a3 a4 a5 a6 k, LeO (partitaref05_Cut.f k a0 a1 a2 a3 a4 a5 a6) (partitaref05_Cut.f (k + 1) a0 a1 a2 a3 a4 a5 a6) := by
 intro a0 a1 a2 a3 a4 a5 a6 k
 obtain ⟨ih0, ih1, ih2⟩ := partitaref05_Cut.mono_l k
 unfold partitaref05_Cut.f
 repeat' first
  | (with_reducible exact ih0 _ _ _ _ _ _ _ _ _)
  | (with_reducible exact ih1 _ _ _ _ _ _ _)
  | (with_reducible exact ih2 _ _ _)
  | (with_reducible exact partitaref01_Add.mono _ _ _ _ _)
  | (with_reducible exact partitaref01_Compare.mono _ _ _ _ _)
  | (with_reducible exact partitaref01_Right.mono _ _ _)
  | (with_reducible exact partitaref01_Sub.mono _ _ _ _ _)
  | (with_reducible exact partitaref05_Beats.mono _ _ _ _)
  | (with_reducible exact partitaref05_Length.mono _ _ _ _)
  | (with_reducible exact partitaref05_within.mono _ _ _ _ _ _)
  | (with_reducible exact LeO.refl _)
  | (with_reducible exact LeO.none _)
  | (with_reducible refine LeO.ite ?_ ?_)
  | (with_reducible refine LeO.bind ?_ (fun _ => ?_))
  | exact ih0 _ _ _ _ _ _ _ _ _
  | exact ih1 _ _ _ _ _ _ _
  | exact ih2 _ _ _
  | exact partitaref01_Add.mono _ _ _ _ _
  | exact partitaref01_Compare.mono _ _ _ _ _
  | exact partitaref01_Right.mono _ _ _
  | exact partitaref01_Sub.mono _ _ _ _ _
  | exact partitaref05_Beats.mono _ _ _ _
  | exact partitaref05_Length.mono _ _ _ _
  | exact partitaref05_within.mono _ _ _ _ _ _
  | exact LeO.none _
  | refine LeO.ite ?_ ?_
  | refine LeO.bind ?_ (fun _ => ?_)
def partitaref05_Cut.T18 : Bool × List (List Nat × List Nat) := (true, [([], []), ([], []), ([0, 1], [0, 1]), ([2], [2]), ([], []), ([3, 4], [3, 4]), ([5], [5]), ([6, 5], [6]), ([7], [7]), ([7], [7]), ([8, 9, 7], [7, 8, 9]), ([10, 7], [7, 10]), ([7], [7]), ([11, 12, 7, 7], [7, 11, 12]), ([13, 7], [7, 13]), ([7, 14], [7, 14])])
def partitaref05_Cut.B18 : List Nat := [0, 0, 3, 7, 0, 31, 63, 127, 255, 255, 1023, 2047, 255, 8191, 16383, 32767]
theorem partitaref05_Cut.tab18 : rtab .any (opsOf Try.f25 18) = partitaref05_Cut.T18 := by kernel_rfl
theorem partitaref05_Cut.bits18 : waitsOk partitaref05_Cut.T18.2 partitaref05_Cut.B18 = true := by kernel_rfl
def partitaref05_Cut.T25 : Bool × List (List Nat × List Nat) := (true, [([], []), ([], []), ([0, 1], [0, 1]), ([2], [2]), ([], []), ([], []), ([5], [5]), ([4, 6], [4, 6]), ([7], [7]), ([3, 8], [3, 8]), ([9], [9]), ([10], [10]), ([10], [10]), ([], []), ([13, 11, 9, 0, 1, 2, 3, 4, 5, 6, 7, 8, 9, 10, 11, 13], [11, 13]), ([12, 14, 0, 1, 2, 3, 4, 5, 6, 7, 8, 9, 10, 11, 12, 13, 14], [12])])
def partitaref05_Cut.B25 : List Nat := [0, 0, 3, 7, 0, 0, 32, 112, 240, 511, 1023, 2047, 2047, 0, 12287, 32767]
theorem partitaref05_Cut.tab25 : rtab .any (opsOf Try.f25 25) = partitaref05_Cut.T25 := by kernel_rfl
theorem partitaref05_Cut.bits25 : waitsOk partitaref05_Cut.T25.2 partitaref05_Cut.B25 = true := by kernel_rfl
set_option maxHeartbeats 8000000 in
set_option maxRecDepth 100000 in
theorem partitaref05_Cut.calls (k : Nat) (a0_0 : Int) (a0_1 : Int) (A0_2 : Option Addr) (c0_2 : Nat) (l0_2 : List Int) (a1_0 : Int) (a1_1 : Int) (a2_0 : Int) (a2_1 : Int) (r1 : List (S26)) (r2 : Int) (w : World) (hr0_2 : Kd.C (Kd.int .i64) w A0_2 l0_2.length l0_2) (hc0_2 : l0_2.length ≤ c0_2) (h : partitaref05_Cut.f k a0_0 a0_1 l0_2 a1_0 a1_1 a2_0 a2_1 = some (r1, r2)) :
 Calls Try.prog 25 #[.agg #[.int .i64 a0_0, .int .i64 a0_1, .slice A0_2 l0_2.length c0_2], .agg #[.int .i64 a1_0, .int .i64 a1_1], .agg #[.int .i64 a2_0, .int .i64 a2_1]] w fun e w' => ∃ v0_ : Value, e = .returned (.tuple #[v0_, .int .i64 r2]) ∧ Kd.R k26 26 w' w.heap.size (fun _ => True) v0_ r1 ∧ Below w.heap.size w w' := by
 have hu24 := Try.underlying24
 have hu26 := Try.underlying26
 have HR0_2 := Aside0.mk hr0_2
 have HC0_2 := Aside0.mk hc0_2
 clear hr0_2 hc0_2
 have HB := Aside0.mk (Below.refl w.heap.size w)
 have H : ((partitaref05_Beats.f k a0_0 a0_1 l0_2).bind fun bt215 => (if bt215.2 = 0 then ((partitaref05_within.f k a0_0 a0_1 l0_2 a1_0 a1_1).bind fun t219 => ((partitaref01_Right.f k a2_0 a2_1).bind fun t220 => (if t219 = true then (if t220 = true then (partitaref05_Cut.j0 k bt215.1 (decide (a2_0 ≤ 0)) a0_0 a0_1 l0_2 a1_0 a1_1 a2_0 a2_1) else (partitaref05_Cut.j0 k bt215.1 true a0_0 a0_1 l0_2 a1_0 a1_1 a2_0 a2_1)) else (partitaref05_Cut.j0 k bt215.1 true a0_0 a0_1 l0_2 a1_0 a1_1 a2_0 a2_1)))) else (some (([] : List (S26)), bt215.2)))) = some (r1, r2) := h
 clear h
 replace H := Option.bind_eq_some_iff.mp H
 obtain ⟨⟨t215, t218⟩, A40, H⟩ := H
 replace H : (if t218 = 0 then ((partitaref05_within.f k a0_0 a0_1 l0_2 a1_0 a1_1).bind fun t219 => ((partitaref01_Right.f k a2_0 a2_1).bind fun t220 => (if t219 = true then (if t220 = true then (partitaref05_Cut.j0 k t215 (decide (a2_0 ≤ 0)) a0_0 a0_1 l0_2 a1_0 a1_1 a2_0 a2_1) else (partitaref05_Cut.j0 k t215 true a0_0 a0_1 l0_2 a1_0 a1_1 a2_0 a2_1)) else (partitaref05_Cut.j0 k t215 true a0_0 a0_1 l0_2 a1_0 a1_1 a2_0 a2_1)))) else (some (([] : List (S26)), t218))) = some (r1, r2) := H
 have A4 := Aside0.mk A40
 clear A40
 by_cases c5 : t218 = 0
 · rw [if_pos c5] at H
   have c5b0 : (t218 == 0) = true := beq_iff_eq.mpr c5
   have c5b1 : (t218 != 0) = false := bne_eq_false_iff_eq.mpr c5
   clear c5
   replace H := Option.bind_eq_some_iff.mp H
   obtain ⟨t219, A60, H⟩ := H
   replace H : ((partitaref01_Right.f k a2_0 a2_1).bind fun t220 => (if t219 = true then (if t220 = true then (partitaref05_Cut.j0 k t215 (decide (a2_0 ≤ 0)) a0_0 a0_1 l0_2 a1_0 a1_1 a2_0 a2_1) else (partitaref05_Cut.j0 k t215 true a0_0 a0_1 l0_2 a1_0 a1_1 a2_0 a2_1)) else (partitaref05_Cut.j0 k t215 true a0_0 a0_1 l0_2 a1_0 a1_1 a2_0 a2_1))) = some (r1, r2) := H
   have A6 := Aside0.mk A60
   clear A60
   replace H := Option.bind_eq_some_iff.mp H
   obtain ⟨t220, A70, H⟩ := H
   replace H : (if t219 = true then (if t220 = true then (partitaref05_Cut.j0 k t215 (decide (a2_0 ≤ 0)) a0_0 a0_1 l0_2 a1_0 a1_1 a2_0 a2_1) else (partitaref05_Cut.j0 k t215 true a0_0 a0_1 l0_2 a1_0 a1_1 a2_0 a2_1)) else (partitaref05_Cut.j0 k t215 true a0_0 a0_1 l0_2 a1_0 a1_1 a2_0 a2_1)) = some (r1, r2) := H
   have A7 := Aside0.mk A70
   clear A70
   have HC8 := Aside0.mk H
   clear H
   go_enter Try.func25, Try.ntmps25
   go_upto_region 6 with (first | ((with_reducible refine gate_dst (N := 3) rfl ?_); refine box_event ?hg (N := 3) ?hd (cs := #[.int .i64 a0_0, .int .i64 a0_1, .slice A0_2 l0_2.length c0_2]) (t := 24) ?hr ?_; (case hd => rfl); (case hg => rfl); (case hr => first | (go_simp; done) | (go_simp; rfl)); intro gb212 hg w9 hbox hb; have n0_ := Aside0.mk (below_step (by repeat (first | (with_reducible first | exact HB.out | apply below_alloc | apply pw_below_drewN | apply below_drew1) | exact HB.out)) hb); have n1_ := Aside0.mk (hbox); have n2_ := Aside0.mk ((by rw [hg]; exact (below_size (by repeat (first | (with_reducible first | exact HB.out | apply below_alloc | apply pw_below_drewN | apply below_drew1) | exact HB.out))) : w.heap.size ≤ gb212)); have n3_ := Aside0.mk ((by rw [hg]; exact (below_size (by repeat (first | (with_reducible first | exact HB.out | apply below_alloc | apply pw_below_drewN | apply below_drew1) | exact HB.out))) : w.heap.size ≤ gb212)); clear HB; have HB := n0_; have BK212 := n1_; have GW212 := n2_; have GE212 := n3_; clear n0_ n1_ n2_ n3_; clear hb hbox hg) | ((with_reducible refine gate_dst (N := 4) rfl ?_); refine box_event ?hg (N := 4) ?hd (cs := #[.int .i64 a1_0, .int .i64 a1_1]) (t := 26) ?hr ?_; (case hd => rfl); (case hg => rfl); (case hr => first | (go_simp; done) | (go_simp; rfl)); intro gb213 hg w10 hbox hb; have n0_ := Aside0.mk (blk_below (qB BK212.out) hb); have n1_ := Aside0.mk (below_step (by repeat (first | (with_reducible first | exact HB.out | apply below_alloc | apply pw_below_drewN | apply below_drew1 | refine below_set ?_ GE212.out) | exact HB.out)) hb); have n2_ := Aside0.mk (hbox); have n3_ := Aside0.mk ((by rw [hg]; exact (below_size (by repeat (first | (with_reducible first | exact HB.out | apply below_alloc | apply pw_below_drewN | apply below_drew1 | refine below_set ?_ GE212.out) | exact HB.out))) : w.heap.size ≤ gb213)); have n4_ := Aside0.mk ((by rw [hg]; exact (below_size (by repeat (first | (with_reducible first | exact HB.out | apply below_alloc | apply pw_below_drewN | apply below_drew1 | refine below_set ?_ GE212.out) | exact HB.out))) : w.heap.size ≤ gb213)); have n5_ := Aside0.mk ((by rw [hg]; exact Nat.ne_of_lt (blk_lt (qB BK212.out)) : gb212 ≠ gb213)); have n6_ := Aside0.mk ((by rw [hg]; exact Nat.ne_of_gt (blk_lt (qB BK212.out)) : gb213 ≠ gb212)); clear BK212; clear HB; have BK212 := n0_; have HB := n1_; have BK213 := n2_; have GW213 := n3_; have GE213 := n4_; have NB212_213 := n5_; have NB213_212 := n6_; clear n0_ n1_ n2_ n3_ n4_ n5_ n6_; clear hb hbox hg) | ((with_reducible refine gate_dst (N := 5) rfl ?_); refine box_event ?hg (N := 5) ?hd (cs := #[.int .i64 a2_0, .int .i64 a2_1]) (t := 26) ?hr ?_; (case hd => rfl); (case hg => rfl); (case hr => first | (go_simp; done) | (go_simp; rfl)); intro gb214 hg w11 hbox hb; have n0_ := Aside0.mk (blk_below (qB BK212.out) hb); have n1_ := Aside0.mk (blk_below (qB BK213.out) hb); have n2_ := Aside0.mk (below_step (by repeat (first | (with_reducible first | exact HB.out | apply below_alloc | apply pw_below_drewN | apply below_drew1 | refine below_set ?_ (Aside0.out (by assumption))) | exact HB.out)) hb); have n3_ := Aside0.mk (hbox); have n4_ := Aside0.mk ((by rw [hg]; exact (below_size (by repeat (first | (with_reducible first | exact HB.out | apply below_alloc | apply pw_below_drewN | apply below_drew1 | refine below_set ?_ (Aside0.out (by assumption))) | exact HB.out))) : w.heap.size ≤ gb214)); have n5_ := Aside0.mk ((by rw [hg]; exact (below_size (by repeat (first | (with_reducible first | exact HB.out | apply below_alloc | apply pw_below_drewN | apply below_drew1 | refine below_set ?_ (Aside0.out (by assumption))) | exact HB.out))) : w.heap.size ≤ gb214)); have n6_ := Aside0.mk ((by rw [hg]; exact Nat.ne_of_lt (blk_lt (qB BK212.out)) : gb212 ≠ gb214)); have n7_ := Aside0.mk ((by rw [hg]; exact Nat.ne_of_gt (blk_lt (qB BK212.out)) : gb214 ≠ gb212)); have n8_ := Aside0.mk ((by rw [hg]; exact Nat.ne_of_lt (blk_lt (qB BK213.out)) : gb213 ≠ gb214)); have n9_ := Aside0.mk ((by rw [hg]; exact Nat.ne_of_gt (blk_lt (qB BK213.out)) : gb214 ≠ gb213)); clear BK212; clear BK213; clear HB; have BK212 := n0_; have BK213 := n1_; have HB := n2_; have BK214 := n3_; have GW214 := n4_; have GE214 := n5_; have NB212_214 := n6_; have NB214_212 := n7_; have NB213_214 := n8_; have NB214_213 := n9_; clear n0_ n1_ n2_ n3_ n4_ n5_ n6_ n7_ n8_ n9_; clear hb hbox hg; have hnb12 := NB212_213.out; have hnc12 := NB213_212.out; have hnb13 := NB212_214.out; have hnc13 := NB214_212.out; have hcz14_0 : w11.cell? ⟨gb212, 0, none⟩ = some (.int .i64 a0_0) := (blk_cell BK212.out 0).trans rfl; have hcz14_1 : w11.cell? ⟨gb212, 1, none⟩ = some (.int .i64 a0_1) := (blk_cell BK212.out 1).trans rfl; have hcz14_2 : w11.cell? ⟨gb212, 2, none⟩ = some (.slice A0_2 l0_2.length c0_2) := (blk_cell BK212.out 2).trans rfl; have hfz14_0 := blk_frozen BK212.out 0; have hfz14_1 := blk_frozen BK212.out 1; have hfz14_2 := blk_frozen BK212.out 2) | ((with_reducible refine gate_callee (f := 15) rfl ?_); refine goesL_ (some 24) rfl rfl Try.func15 (by kernel_rfl) rfl #[.agg #[.int .i64 a0_0, .int .i64 a0_1, .slice A0_2 l0_2.length c0_2]] rfl (by (try simp only [List.map_toArray, List.map_cons, List.map_nil]); first | done | rfl | (simp only [List.length_drop, List.length_take]; rfl)) ?_; (with_reducible refine (partitaref05_Beats.calls k a0_0 a0_1 _ _ l0_2 t215 t218 _ ?side1 ?side2 A4.out).mono ?_); (case side1 => repeat (first | exact (Kd.C_below HR0_2.out HB.out) | (with_reducible refine Kd.C_alloc ?_ _) | (with_reducible refine Kd.C_drewN ?_ _) | (with_reducible refine Kd.C_drew ?_))); (case side2 => exact HC0_2.out); rintro e w15 ⟨v216, rfl, ho0, hb⟩; refine ⟨_, rfl, ?_⟩; have n0_ := Aside0.mk (Kd.R_lower (Kd.R_newB (Kd.R_newB ho0 (qB BK213.out)) (qB BK214.out)) (below_size (by repeat (first | (with_reducible first | exact HB.out | apply below_alloc | apply pw_below_drewN | apply below_drew1 | refine below_set ?_ (Aside0.out (by assumption))) | exact HB.out)))); have n1_ := Aside0.mk (blk_below (qB BK212.out) hb); have n2_ := Aside0.mk (blk_below (qB BK213.out) hb); have n3_ := Aside0.mk (blk_below (qB BK214.out) hb); have n4_ := Aside0.mk (below_step (by repeat (first | (with_reducible first | exact HB.out | apply below_alloc | apply pw_below_drewN | apply below_drew1 | refine below_set ?_ (Aside0.out (by assumption))) | exact HB.out)) hb); clear BK212; clear BK213; clear BK214; clear HB; have HO217 := n0_; have BK212 := n1_; have BK213 := n2_; have BK214 := n3_; have HB := n4_; clear n0_ n1_ n2_ n3_ n4_; (try clear hb); (try clear hb2); (try clear hk); (try clear hi); (try clear ho0); have hcz16_0 : w15.cell? ⟨gb212, 0, none⟩ = some (.int .i64 a0_0) := (blk_cell BK212.out 0).trans rfl; have hcz16_1 : w15.cell? ⟨gb212, 1, none⟩ = some (.int .i64 a0_1) := (blk_cell BK212.out 1).trans rfl; have hcz16_2 : w15.cell? ⟨gb212, 2, none⟩ = some (.slice A0_2 l0_2.length c0_2) := (blk_cell BK212.out 2).trans rfl; have hfz16_0 := blk_frozen BK212.out 0; have hfz16_1 := blk_frozen BK212.out 1; have hfz16_2 := blk_frozen BK212.out 2; have hnb17 := NB213_214.out; have hnc17 := NB214_213.out; have hcz18_0 : w15.cell? ⟨gb213, 0, none⟩ = some (.int .i64 a1_0) := (blk_cell BK213.out 0).trans rfl; have hcz18_1 : w15.cell? ⟨gb213, 1, none⟩ = some (.int .i64 a1_1) := (blk_cell BK213.out 1).trans rfl; have hfz18_0 := blk_frozen BK213.out 0; have hfz18_1 := blk_frozen BK213.out 1) | ((with_reducible refine gate_callee (f := 37) rfl ?_); refine goesL_ (some 32) rfl rfl Try.func37 (by kernel_rfl) rfl #[.agg #[.int .i64 a0_0, .int .i64 a0_1, .slice A0_2 l0_2.length c0_2], .agg #[.int .i64 a1_0, .int .i64 a1_1]] rfl (by (try simp only [List.map_toArray, List.map_cons, List.map_nil]); first | done | rfl | (simp only [List.length_drop, List.length_take]; rfl)) ?_; (with_reducible refine (partitaref05_within.calls k a0_0 a0_1 _ _ l0_2 a1_0 a1_1 t219 _ ?side1 ?side2 A6.out).mono ?_); (case side1 => repeat (first | exact (Kd.C_below HR0_2.out HB.out) | (with_reducible refine Kd.C_alloc ?_ _) | (with_reducible refine Kd.C_drewN ?_ _) | (with_reducible refine Kd.C_drew ?_))); (case side2 => exact HC0_2.out); rintro e w19 ⟨rfl, hb⟩; refine ⟨_, rfl, ?_⟩; have n0_ := Aside0.mk (Kd.R_below (qR HO217.out) hb); have n1_ := Aside0.mk (blk_below (qB BK212.out) hb); have n2_ := Aside0.mk (blk_below (qB BK213.out) hb); have n3_ := Aside0.mk (blk_below (qB BK214.out) hb); have n4_ := Aside0.mk (below_step (by repeat (first | (with_reducible first | exact HB.out | apply below_alloc | apply pw_below_drewN | apply below_drew1 | refine below_set ?_ (Aside0.out (by assumption))) | exact HB.out)) hb); clear HO217; clear BK212; clear BK213; clear BK214; clear HB; have HO217 := n0_; have BK212 := n1_; have BK213 := n2_; have BK214 := n3_; have HB := n4_; clear n0_ n1_ n2_ n3_ n4_; (try clear hb); (try clear hb2); (try clear hk); (try clear hi); have hcz20_0 : w19.cell? ⟨gb214, 0, none⟩ = some (.int .i64 a2_0) := (blk_cell BK214.out 0).trans rfl; have hcz20_1 : w19.cell? ⟨gb214, 1, none⟩ = some (.int .i64 a2_1) := (blk_cell BK214.out 1).trans rfl; have hfz20_0 := blk_frozen BK214.out 0; have hfz20_1 := blk_frozen BK214.out 1) | ((with_reducible refine gate_callee (f := 40) rfl ?_); refine goesL_ (some 34) rfl rfl Try.func40 (by kernel_rfl) rfl #[.agg #[.int .i64 a2_0, .int .i64 a2_1]] rfl (by (try simp only [List.map_toArray, List.map_cons, List.map_nil]); first | done | rfl | (simp only [List.length_drop, List.length_take]; rfl)) ?_; (with_reducible refine (partitaref01_Right.calls k a2_0 a2_1 t220 _ A7.out).mono ?_); rintro e w21 ⟨rfl, hb⟩; refine ⟨_, rfl, ?_⟩; have n0_ := Aside0.mk (Kd.R_below (qR HO217.out) hb); have n1_ := Aside0.mk (blk_below (qB BK212.out) hb); have n2_ := Aside0.mk (blk_below (qB BK213.out) hb); have n3_ := Aside0.mk (blk_below (qB BK214.out) hb); have n4_ := Aside0.mk (below_step (by repeat (first | (with_reducible first | exact HB.out | apply below_alloc | apply pw_below_drewN | apply below_drew1 | refine below_set ?_ (Aside0.out (by assumption))) | exact HB.out)) hb); clear HO217; clear BK212; clear BK213; clear BK214; clear HB; have HO217 := n0_; have BK212 := n1_; have BK213 := n2_; have BK214 := n3_; have HB := n4_; clear n0_ n1_ n2_ n3_ n4_; (try clear hb); (try clear hb2); (try clear hk); (try clear hi)))
   (try simp only [Act.put, qa_, qz_, qs_])
   go_cut [45] (fun v45 wc => ∃ (kq : Nat) (x45_7 : Bool), v45 = .bool x45_7 ∧ Aside0 (partitaref05_Cut.j0 kq t215 x45_7 a0_0 a0_1 l0_2 a1_0 a1_1 a2_0 a2_1 = some (r1, r2)) ∧ Aside0 (kq ≤ k) ∧ Aside0 (Kd.R k26 26 wc w.heap.size (fun k_ => k_ ≠ gb213 ∧ k_ ≠ gb214) v216 t215) ∧ Aside0 (wc.heap[gb212]? = some (.cells #[.int .i64 a0_0, .int .i64 a0_1, (.slice A0_2 l0_2.length c0_2)] 24 (0, 0))) ∧ Aside0 (wc.heap[gb213]? = some (.cells #[.int .i64 a1_0, .int .i64 a1_1] 26 (0, 0))) ∧ Aside0 (wc.heap[gb214]? = some (.cells #[.int .i64 a2_0, .int .i64 a2_1] 26 (0, 0))) ∧ Aside0 (Below w.heap.size w wc))
   case first =>
    have H := HC8.out
    clear HC8
    by_cases c22 : t219 = true
    · subst c22
      have H1 : (if t220 = true then (partitaref05_Cut.j0 k t215 (decide (a2_0 ≤ 0)) a0_0 a0_1 l0_2 a1_0 a1_1 a2_0 a2_1) else (partitaref05_Cut.j0 k t215 true a0_0 a0_1 l0_2 a1_0 a1_1 a2_0 a2_1)) = some (r1, r2) := by rw [if_pos rfl] at H; exact H
      clear H
      have H := H1
      clear H1
      by_cases c23 : t220 = true
      · subst c23
        have H1 : (partitaref05_Cut.j0 k t215 (decide (a2_0 ≤ 0)) a0_0 a0_1 l0_2 a1_0 a1_1 a2_0 a2_1) = some (r1, r2) := by rw [if_pos rfl] at H; exact H
        clear H
        have H := H1
        clear H1
        have H' := Aside0.mk H
        clear H
        have hnb24 := NB214_212.out
        have hnc24 := NB212_214.out
        have hnb25 := NB214_213.out
        have hnc25 := NB213_214.out
        have hcz26_0 : w21.cell? ⟨gb214, 0, none⟩ = some (.int .i64 a2_0) := (blk_cell BK214.out 0).trans rfl
        have hcz26_1 : w21.cell? ⟨gb214, 1, none⟩ = some (.int .i64 a2_1) := (blk_cell BK214.out 1).trans rfl
        have hfz26_0 := blk_frozen BK214.out 0
        have hfz26_1 := blk_frozen BK214.out 1
        go_wp2
        go_meet
        case rel => exact ⟨_, (decide (a2_0 ≤ 0)), (by first | rfl | (simp; done) | (simp [*]; done)), H', ⟨by first | omega | exact Nat.le_refl _⟩, ⟨by (with_reducible repeat (first | apply Kd.R_alloc | apply Kd.R_drewN | apply Kd.R_drew)); exact Kd.R_mono HO217.out (fun _ hk => ⟨hk.1.2, hk.2⟩)⟩, ⟨by (with_reducible repeat (first | refine blk_drewN ?_ _ | refine blk_drew ?_ | refine blk_alloc ?_ _)); exact BK212.out⟩, ⟨by (with_reducible repeat (first | refine blk_drewN ?_ _ | refine blk_drew ?_ | refine blk_alloc ?_ _)); exact BK213.out⟩, ⟨by (with_reducible repeat (first | refine blk_drewN ?_ _ | refine blk_drew ?_ | refine blk_alloc ?_ _)); exact BK214.out⟩, ⟨by repeat (first | (with_reducible first | exact HB.out | apply below_alloc | apply pw_below_drewN | apply below_drew1 | refine below_set ?_ (Aside0.out (by assumption))) | exact HB.out)⟩⟩
      · replace c23 := Bool.eq_false_iff.mpr c23
        subst c23
        have H1 : (partitaref05_Cut.j0 k t215 true a0_0 a0_1 l0_2 a1_0 a1_1 a2_0 a2_1) = some (r1, r2) := by rw [if_neg (show ¬ (false = true) by decide)] at H; exact H
        clear H
        have H := H1
        clear H1
        have H' := Aside0.mk H
        clear H
        go_wp2
        go_meet
        case rel => exact ⟨_, (true), (by first | rfl | (simp; done) | (simp [*]; done)), H', ⟨by first | omega | exact Nat.le_refl _⟩, ⟨by (with_reducible repeat (first | apply Kd.R_alloc | apply Kd.R_drewN | apply Kd.R_drew)); exact Kd.R_mono HO217.out (fun _ hk => ⟨hk.1.2, hk.2⟩)⟩, ⟨by (with_reducible repeat (first | refine blk_drewN ?_ _ | refine blk_drew ?_ | refine blk_alloc ?_ _)); exact BK212.out⟩, ⟨by (with_reducible repeat (first | refine blk_drewN ?_ _ | refine blk_drew ?_ | refine blk_alloc ?_ _)); exact BK213.out⟩, ⟨by (with_reducible repeat (first | refine blk_drewN ?_ _ | refine blk_drew ?_ | refine blk_alloc ?_ _)); exact BK214.out⟩, ⟨by repeat (first | (with_reducible first | exact HB.out | apply below_alloc | apply pw_below_drewN | apply below_drew1 | refine below_set ?_ (Aside0.out (by assumption))) | exact HB.out)⟩⟩
    · replace c22 := Bool.eq_false_iff.mpr c22
      subst c22
      have H1 : (partitaref05_Cut.j0 k t215 true a0_0 a0_1 l0_2 a1_0 a1_1 a2_0 a2_1) = some (r1, r2) := by rw [if_neg (show ¬ (false = true) by decide)] at H; exact H
      clear H
      have H := H1
      clear H1
      have H' := Aside0.mk H
      clear H
      go_wp2
      go_meet
      case rel => exact ⟨_, (true), (by first | rfl | (simp; done) | (simp [*]; done)), H', ⟨by first | omega | exact Nat.le_refl _⟩, ⟨by (with_reducible repeat (first | apply Kd.R_alloc | apply Kd.R_drewN | apply Kd.R_drew)); exact Kd.R_mono HO217.out (fun _ hk => ⟨hk.1.2, hk.2⟩)⟩, ⟨by (with_reducible repeat (first | refine blk_drewN ?_ _ | refine blk_drew ?_ | refine blk_alloc ?_ _)); exact BK212.out⟩, ⟨by (with_reducible repeat (first | refine blk_drewN ?_ _ | refine blk_drew ?_ | refine blk_alloc ?_ _)); exact BK213.out⟩, ⟨by (with_reducible repeat (first | refine blk_drewN ?_ _ | refine blk_drew ?_ | refine blk_alloc ?_ _)); exact BK214.out⟩, ⟨by repeat (first | (with_reducible first | exact HB.out | apply below_alloc | apply pw_below_drewN | apply below_drew1 | refine below_set ?_ (Aside0.out (by assumption))) | exact HB.out)⟩⟩
   case rest =>
    clear HC8
    try clear c1
    try clear c2
    try clear p2
    try clear c3
    try clear c4
    try clear c5
    try clear c5b0
    try clear c5b1
    try clear c12
    try clear c13
    try clear c15
    try clear c17
    try clear c22
    try clear c23
    try clear c24
    try clear c25
    try clear hcz14_0
    try clear hcz14_1
    try clear hcz14_2
    try clear hcz16_0
    try clear hcz16_1
    try clear hcz16_2
    try clear hcz18_0
    try clear hcz18_1
    try clear hcz20_0
    try clear hcz20_1
    try clear hcz26_0
    try clear hcz26_1
    try clear hfz14_0
    try clear hfz14_1
    try clear hfz14_2
    try clear hfz16_0
    try clear hfz16_1
    try clear hfz16_2
    try clear hfz18_0
    try clear hfz18_1
    try clear hfz20_0
    try clear hfz20_1
    try clear hfz26_0
    try clear hfz26_1
    obtain ⟨kq, x45_7, rfl, HA, HJ7, HO_8, BK212, BK213, BK214, HB⟩ := hcut
    cases kq with
    | zero => exact absurd HA.out (by simp [partitaref05_Cut.j0])
    | succ kj7 =>
     have H := HA.out
     clear HA
     simp only [partitaref05_Cut.j0] at H
     by_cases c27 : x45_7 = true
     · subst c27
       have H1 : (some (([] : List (S26)), 2)) = some (r1, r2) := by rw [if_pos rfl] at H; exact H
       clear H
       have H := H1
       clear H1
       simp only [Option.some.injEq, Prod.mk.injEq] at H
       obtain ⟨rfl, rfl⟩ := H
       go_wp2
       go_ret2
       exact ⟨_, by first | rfl | (simp [errW_none, errW_some] <;> rfl) | (simp [*, errW_none, errW_some] <;> rfl), by first | exact Kd.R_nil _ _ _ _ _ | exact Kd.N_nil _ _ _ _ _ | exact Kd.V_nil _ _ _ _ _ | exact Kd.Q_nil _ _ _ _ _ | exact Kd.S_nil _ _ _ _ _, by repeat (first | (with_reducible first | exact HB.out | apply below_alloc | apply pw_below_drewN | apply below_drew1 | refine below_set ?_ (Aside0.out (by assumption))) | exact HB.out)⟩
     · replace c27 := Bool.eq_false_iff.mpr c27
       subst c27
       have H1 : ((partitaref01_Add.f kj7 a1_0 a1_1 a2_0 a2_1).bind fun bt221 => (if bt221.2.2 = 0 then ((partitaref05_Length.f kj7 a0_0 a0_1 l0_2).bind fun bt225 => ((partitaref01_Compare.f kj7 bt221.1 bt221.2.1 bt225.1 bt225.2.1).bind fun t229 => (if t229 > 0 then (some (([] : List (S26)), 2)) else (partitaref05_Cut.l0 kj7 t215 (([(⟨a1_0, a1_1⟩ : S26)] : List (S26))) 0 a1_0 a1_1 bt221.1 bt221.2.1)))) else (some (([] : List (S26)), bt221.2.2)))) = some (r1, r2) := by rw [if_neg (show ¬ (false = true) by decide)] at H; exact H
       clear H
       have H := H1
       clear H1
       replace H := Option.bind_eq_some_iff.mp H
       obtain ⟨⟨t221, t222, t223⟩, A280, H⟩ := H
       replace H : (if t223 = 0 then ((partitaref05_Length.f kj7 a0_0 a0_1 l0_2).bind fun bt225 => ((partitaref01_Compare.f kj7 t221 t222 bt225.1 bt225.2.1).bind fun t229 => (if t229 > 0 then (some (([] : List (S26)), 2)) else (partitaref05_Cut.l0 kj7 t215 (([(⟨a1_0, a1_1⟩ : S26)] : List (S26))) 0 a1_0 a1_1 t221 t222)))) else (some (([] : List (S26)), t223))) = some (r1, r2) := H
       have A28 := Aside0.mk A280
       clear A280
       by_cases c29 : t223 = 0
       · rw [if_pos c29] at H
         have c29b0 : (t223 == 0) = true := beq_iff_eq.mpr c29
         have c29b1 : (t223 != 0) = false := bne_eq_false_iff_eq.mpr c29
         clear c29
         replace H := Option.bind_eq_some_iff.mp H
         obtain ⟨⟨t225, t226, t227⟩, A300, H⟩ := H
         replace H : ((partitaref01_Compare.f kj7 t221 t222 t225 t226).bind fun t229 => (if t229 > 0 then (some (([] : List (S26)), 2)) else (partitaref05_Cut.l0 kj7 t215 (([(⟨a1_0, a1_1⟩ : S26)] : List (S26))) 0 a1_0 a1_1 t221 t222))) = some (r1, r2) := H
         have A30 := Aside0.mk A300
         clear A300
         replace H := Option.bind_eq_some_iff.mp H
         obtain ⟨t229, A310, H⟩ := H
         replace H : (if t229 > 0 then (some (([] : List (S26)), 2)) else (partitaref05_Cut.l0 kj7 t215 (([(⟨a1_0, a1_1⟩ : S26)] : List (S26))) 0 a1_0 a1_1 t221 t222)) = some (r1, r2) := H
         have A31 := Aside0.mk A310
         clear A310
         by_cases c32 : t229 > 0
         · rw [if_pos c32] at H
           have c32b0 : decide (0 < t229) = true := decide_eq_true c32
           clear c32
           simp only [Option.some.injEq, Prod.mk.injEq] at H
           obtain ⟨rfl, rfl⟩ := H
           have hnb33 := NB213_212.out
           have hnc33 := NB212_213.out
           have hnb34 := NB213_214.out
           have hnc34 := NB214_213.out
           have hcz35_0 : wc.cell? ⟨gb213, 0, none⟩ = some (.int .i64 a1_0) := (blk_cell BK213.out 0).trans rfl
           have hcz35_1 : wc.cell? ⟨gb213, 1, none⟩ = some (.int .i64 a1_1) := (blk_cell BK213.out 1).trans rfl
           have hfz35_0 := blk_frozen BK213.out 0
           have hfz35_1 := blk_frozen BK213.out 1
           have hnb36 := NB214_212.out
           have hnc36 := NB212_214.out
           have hcz37_0 : wc.cell? ⟨gb214, 0, none⟩ = some (.int .i64 a2_0) := (blk_cell BK214.out 0).trans rfl
           have hcz37_1 : wc.cell? ⟨gb214, 1, none⟩ = some (.int .i64 a2_1) := (blk_cell BK214.out 1).trans rfl
           have hfz37_0 := blk_frozen BK214.out 0
           have hfz37_1 := blk_frozen BK214.out 1
           go_wp2_with (first | ((with_reducible refine gate_callee (f := 41) rfl ?_); refine goesL_ (some 49) rfl rfl Try.func41 (by kernel_rfl) rfl #[.agg #[.int .i64 a1_0, .int .i64 a1_1], .agg #[.int .i64 a2_0, .int .i64 a2_1]] rfl (by (try simp only [List.map_toArray, List.map_cons, List.map_nil]); first | done | rfl | (simp only [List.length_drop, List.length_take]; rfl)) ?_; (with_reducible refine (partitaref01_Add.calls kj7 a1_0 a1_1 a2_0 a2_1 t221 t222 t223 _ A28.out).mono ?_); rintro e w38 ⟨rfl, hb⟩; refine ⟨_, rfl, ?_⟩; have n0_ := Aside0.mk (Kd.R_below (qR HO_8.out) hb); have n1_ := Aside0.mk (blk_below (qB BK212.out) hb); have n2_ := Aside0.mk (blk_below (qB BK213.out) hb); have n3_ := Aside0.mk (blk_below (qB BK214.out) hb); have n4_ := Aside0.mk (below_step (by repeat (first | (with_reducible first | exact HB.out | apply below_alloc | apply pw_below_drewN | apply below_drew1 | refine below_set ?_ (Aside0.out (by assumption))) | exact HB.out)) hb); clear HO_8; clear BK212; clear BK213; clear BK214; clear HB; have HO_8 := n0_; have BK212 := n1_; have BK213 := n2_; have BK214 := n3_; have HB := n4_; clear n0_ n1_ n2_ n3_ n4_; (try clear hb); (try clear hb2); (try clear hk); (try clear hi)) | ((with_reducible refine gate_dst (N := 12) rfl ?_); refine box_event ?hg (N := 12) ?hd (cs := #[.int .i64 0, .int .i64 0]) (t := 26) ?hr ?_; (case hd => rfl); (case hg => rfl); (case hr => first | (go_simp; done) | (go_simp; rfl)); intro gb224 hg w39 hbox hb; have n0_ := Aside0.mk (Kd.R_below (Kd.R_elderB (qR HO_8.out) gb224 (Nat.le_of_eq hg.symm)) hb); have n1_ := Aside0.mk (blk_below (qB BK212.out) hb); have n2_ := Aside0.mk (blk_below (qB BK213.out) hb); have n3_ := Aside0.mk (blk_below (qB BK214.out) hb); have n4_ := Aside0.mk (below_step (by repeat (first | (with_reducible first | exact HB.out | apply below_alloc | apply pw_below_drewN | apply below_drew1 | refine below_set ?_ (Aside0.out (by assumption))) | exact HB.out)) hb); have n5_ := Aside0.mk (hbox); have n6_ := Aside0.mk ((by rw [hg]; exact (below_size (by repeat (first | (with_reducible first | exact HB.out | apply below_alloc | apply pw_below_drewN | apply below_drew1 | refine below_set ?_ (Aside0.out (by assumption))) | exact HB.out))) : w.heap.size ≤ gb224)); have n7_ := Aside0.mk ((by rw [hg]; exact (below_size (by repeat (first | (with_reducible first | exact HB.out | apply below_alloc | apply pw_below_drewN | apply below_drew1 | refine below_set ?_ (Aside0.out (by assumption))) | exact HB.out))) : w.heap.size ≤ gb224)); have n8_ := Aside0.mk ((by rw [hg]; exact Nat.ne_of_lt (blk_lt (qB BK212.out)) : gb212 ≠ gb224)); have n9_ := Aside0.mk ((by rw [hg]; exact Nat.ne_of_gt (blk_lt (qB BK212.out)) : gb224 ≠ gb212)); have n10_ := Aside0.mk ((by rw [hg]; exact Nat.ne_of_lt (blk_lt (qB BK213.out)) : gb213 ≠ gb224)); have n11_ := Aside0.mk ((by rw [hg]; exact Nat.ne_of_gt (blk_lt (qB BK213.out)) : gb224 ≠ gb213)); have n12_ := Aside0.mk ((by rw [hg]; exact Nat.ne_of_lt (blk_lt (qB BK214.out)) : gb214 ≠ gb224)); have n13_ := Aside0.mk ((by rw [hg]; exact Nat.ne_of_gt (blk_lt (qB BK214.out)) : gb224 ≠ gb214)); clear HO_8; clear BK212; clear BK213; clear BK214; clear HB; have HO_8 := n0_; have BK212 := n1_; have BK213 := n2_; have BK214 := n3_; have HB := n4_; have BK224 := n5_; have GW224 := n6_; have GE224 := n7_; have NB212_224 := n8_; have NB224_212 := n9_; have NB213_224 := n10_; have NB224_213 := n11_; have NB214_224 := n12_; have NB224_214 := n13_; clear n0_ n1_ n2_ n3_ n4_ n5_ n6_ n7_ n8_ n9_ n10_ n11_ n12_ n13_; clear hb hbox hg; have hnb40 := NB224_212.out; have hnc40 := NB212_224.out; have hnb41 := NB224_213.out; have hnc41 := NB213_224.out; have hnb42 := NB224_214.out; have hnc42 := NB214_224.out; have hcz43_0 : w39.cell? ⟨gb224, 0, none⟩ = some (.int .i64 0) := (blk_cell BK224.out 0).trans rfl; have hcz43_1 : w39.cell? ⟨gb224, 1, none⟩ = some (.int .i64 0) := (blk_cell BK224.out 1).trans rfl; have hfz43_0 := blk_frozen BK224.out 0; have hfz43_1 := blk_frozen BK224.out 1; have hcz44_0 : w39.cell? ⟨gb212, 0, none⟩ = some (.int .i64 a0_0) := (blk_cell BK212.out 0).trans rfl; have hcz44_1 : w39.cell? ⟨gb212, 1, none⟩ = some (.int .i64 a0_1) := (blk_cell BK212.out 1).trans rfl; have hcz44_2 : w39.cell? ⟨gb212, 2, none⟩ = some (.slice A0_2 l0_2.length c0_2) := (blk_cell BK212.out 2).trans rfl; have hfz44_0 := blk_frozen BK212.out 0; have hfz44_1 := blk_frozen BK212.out 1; have hfz44_2 := blk_frozen BK212.out 2) | ((with_reducible refine gate_callee (f := 13) rfl ?_); refine goesL_ (some 57) rfl rfl Try.func13 (by kernel_rfl) rfl #[.agg #[.int .i64 a0_0, .int .i64 a0_1, .slice A0_2 l0_2.length c0_2]] rfl (by (try simp only [List.map_toArray, List.map_cons, List.map_nil]); first | done | rfl | (simp only [List.length_drop, List.length_take]; rfl)) ?_; (with_reducible refine (partitaref05_Length.calls kj7 a0_0 a0_1 _ _ l0_2 t225 t226 t227 _ ?side1 ?side2 A30.out).mono ?_); (case side1 => exact Kd.C_below HR0_2.out (by repeat (first | (with_reducible first | exact HB.out | apply below_alloc | apply pw_below_drewN | apply below_drew1 | refine below_set ?_ (Aside0.out (by assumption))) | exact HB.out))); (case side2 => exact HC0_2.out); rintro e w45 ⟨rfl, hb⟩; refine ⟨_, rfl, ?_⟩; have n0_ := Aside0.mk (Kd.R_below (qR ((Kd.R_mono (Kd.R_far (p := ⟨gb224, 1, none⟩) (Kd.R_far (p := ⟨gb224, 0, none⟩) (Kd.R_mono HO_8.out (fun k_ hk => (⟨hk, hk.2⟩ : _ ∧ k_ ≠ gb224))) (fun _ hk => hk.2) (.int .i64 t221)) (fun _ hk => hk.2) (.int .i64 t222)) (fun _ h_ => h_.1)))) hb); have n1_ := Aside0.mk (blk_below (g := gb212) (o := .cells #[.int .i64 a0_0, .int .i64 a0_1, .slice A0_2 l0_2.length c0_2] 24 (0, 0)) (by (with_reducible repeat (first | refine blk_drewN ?_ _ | refine blk_drew ?_ | refine blk_alloc ?_ _)); refine blk_far ?_ NB212_224.out _; (with_reducible repeat (first | refine blk_drewN ?_ _ | refine blk_drew ?_ | refine blk_alloc ?_ _)); refine blk_far ?_ NB212_224.out _; (with_reducible repeat (first | refine blk_drewN ?_ _ | refine blk_drew ?_ | refine blk_alloc ?_ _)); exact BK212.out) hb); have n2_ := Aside0.mk (blk_below (g := gb213) (o := .cells #[.int .i64 a1_0, .int .i64 a1_1] 26 (0, 0)) (by (with_reducible repeat (first | refine blk_drewN ?_ _ | refine blk_drew ?_ | refine blk_alloc ?_ _)); refine blk_far ?_ NB213_224.out _; (with_reducible repeat (first | refine blk_drewN ?_ _ | refine blk_drew ?_ | refine blk_alloc ?_ _)); refine blk_far ?_ NB213_224.out _; (with_reducible repeat (first | refine blk_drewN ?_ _ | refine blk_drew ?_ | refine blk_alloc ?_ _)); exact BK213.out) hb); have n3_ := Aside0.mk (blk_below (g := gb214) (o := .cells #[.int .i64 a2_0, .int .i64 a2_1] 26 (0, 0)) (by (with_reducible repeat (first | refine blk_drewN ?_ _ | refine blk_drew ?_ | refine blk_alloc ?_ _)); refine blk_far ?_ NB214_224.out _; (with_reducible repeat (first | refine blk_drewN ?_ _ | refine blk_drew ?_ | refine blk_alloc ?_ _)); refine blk_far ?_ NB214_224.out _; (with_reducible repeat (first | refine blk_drewN ?_ _ | refine blk_drew ?_ | refine blk_alloc ?_ _)); exact BK214.out) hb); have n4_ := Aside0.mk (blk_below (g := gb224) (o := .cells #[.int .i64 t221, .int .i64 t222] 26 (0, 0)) (by (with_reducible repeat (first | refine blk_drewN ?_ _ | refine blk_drew ?_ | refine blk_alloc ?_ _)); refine blk_put (cs := #[.int .i64 t221, .int .i64 0]) ?_ 1 _ rfl; (with_reducible repeat (first | refine blk_drewN ?_ _ | refine blk_drew ?_ | refine blk_alloc ?_ _)); refine blk_put (cs := #[.int .i64 0, .int .i64 0]) ?_ 0 _ rfl; (with_reducible repeat (first | refine blk_drewN ?_ _ | refine blk_drew ?_ | refine blk_alloc ?_ _)); exact BK224.out) hb); have n5_ := Aside0.mk (below_step (by repeat (first | (with_reducible first | exact HB.out | apply below_alloc | apply pw_below_drewN | apply below_drew1 | refine below_set ?_ (Aside0.out (by assumption))) | exact HB.out)) hb); clear HO_8; clear BK212; clear BK213; clear BK214; clear BK224; clear HB; have HO_8 := n0_; have BK212 := n1_; have BK213 := n2_; have BK214 := n3_; have BK224 := n4_; have HB := n5_; clear n0_ n1_ n2_ n3_ n4_ n5_; (try clear hb); (try clear hb2); (try clear hk); (try clear hi)) | ((with_reducible refine gate_dst (N := 14) rfl ?_); refine box_event ?hg (N := 14) ?hd (cs := #[.int .i64 0, .int .i64 0]) (t := 26) ?hr ?_; (case hd => rfl); (case hg => rfl); (case hr => first | (go_simp; done) | (go_simp; rfl)); intro gb228 hg w46 hbox hb; have n0_ := Aside0.mk (Kd.R_below (Kd.R_elderB (qR HO_8.out) gb228 (Nat.le_of_eq hg.symm)) hb); have n1_ := Aside0.mk (blk_below (qB BK212.out) hb); have n2_ := Aside0.mk (blk_below (qB BK213.out) hb); have n3_ := Aside0.mk (blk_below (qB BK214.out) hb); have n4_ := Aside0.mk (blk_below (qB BK224.out) hb); have n5_ := Aside0.mk (below_step (by repeat (first | (with_reducible first | exact HB.out | apply below_alloc | apply pw_below_drewN | apply below_drew1 | refine below_set ?_ (Aside0.out (by assumption))) | exact HB.out)) hb); have n6_ := Aside0.mk (hbox); have n7_ := Aside0.mk ((by rw [hg]; exact (below_size (by repeat (first | (with_reducible first | exact HB.out | apply below_alloc | apply pw_below_drewN | apply below_drew1 | refine below_set ?_ (Aside0.out (by assumption))) | exact HB.out))) : w.heap.size ≤ gb228)); have n8_ := Aside0.mk ((by rw [hg]; exact (below_size (by repeat (first | (with_reducible first | exact HB.out | apply below_alloc | apply pw_below_drewN | apply below_drew1 | refine below_set ?_ (Aside0.out (by assumption))) | exact HB.out))) : w.heap.size ≤ gb228)); have n9_ := Aside0.mk ((by rw [hg]; exact Nat.ne_of_lt (blk_lt (qB BK212.out)) : gb212 ≠ gb228)); have n10_ := Aside0.mk ((by rw [hg]; exact Nat.ne_of_gt (blk_lt (qB BK212.out)) : gb228 ≠ gb212)); have n11_ := Aside0.mk ((by rw [hg]; exact Nat.ne_of_lt (blk_lt (qB BK213.out)) : gb213 ≠ gb228)); have n12_ := Aside0.mk ((by rw [hg]; exact Nat.ne_of_gt (blk_lt (qB BK213.out)) : gb228 ≠ gb213)); have n13_ := Aside0.mk ((by rw [hg]; exact Nat.ne_of_lt (blk_lt (qB BK214.out)) : gb214 ≠ gb228)); have n14_ := Aside0.mk ((by rw [hg]; exact Nat.ne_of_gt (blk_lt (qB BK214.out)) : gb228 ≠ gb214)); have n15_ := Aside0.mk ((by rw [hg]; exact Nat.ne_of_lt (blk_lt (qB BK224.out)) : gb224 ≠ gb228)); have n16_ := Aside0.mk ((by rw [hg]; exact Nat.ne_of_gt (blk_lt (qB BK224.out)) : gb228 ≠ gb224)); clear HO_8; clear BK212; clear BK213; clear BK214; clear BK224; clear HB; have HO_8 := n0_; have BK212 := n1_; have BK213 := n2_; have BK214 := n3_; have BK224 := n4_; have HB := n5_; have BK228 := n6_; have GW228 := n7_; have GE228 := n8_; have NB212_228 := n9_; have NB228_212 := n10_; have NB213_228 := n11_; have NB228_213 := n12_; have NB214_228 := n13_; have NB228_214 := n14_; have NB224_228 := n15_; have NB228_224 := n16_; clear n0_ n1_ n2_ n3_ n4_ n5_ n6_ n7_ n8_ n9_ n10_ n11_ n12_ n13_ n14_ n15_ n16_; clear hb hbox hg; have hnb47 := NB228_212.out; have hnc47 := NB212_228.out; have hnb48 := NB228_213.out; have hnc48 := NB213_228.out; have hnb49 := NB228_214.out; have hnc49 := NB214_228.out; have hnb50 := NB228_224.out; have hnc50 := NB224_228.out; have hcz51_0 : w46.cell? ⟨gb228, 0, none⟩ = some (.int .i64 0) := (blk_cell BK228.out 0).trans rfl; have hcz51_1 : w46.cell? ⟨gb228, 1, none⟩ = some (.int .i64 0) := (blk_cell BK228.out 1).trans rfl; have hfz51_0 := blk_frozen BK228.out 0; have hfz51_1 := blk_frozen BK228.out 1; have hcz52_0 : w46.cell? ⟨gb224, 0, none⟩ = some (.int .i64 t221) := (blk_cell BK224.out 0).trans rfl; have hcz52_1 : w46.cell? ⟨gb224, 1, none⟩ = some (.int .i64 t222) := (blk_cell BK224.out 1).trans rfl; have hfz52_0 := blk_frozen BK224.out 0; have hfz52_1 := blk_frozen BK224.out 1) | ((with_reducible refine gate_callee (f := 42) rfl ?_); refine goesL_ (some 62) rfl rfl Try.func42 (by kernel_rfl) rfl #[.agg #[.int .i64 t221, .int .i64 t222], .agg #[.int .i64 t225, .int .i64 t226]] rfl (by (try simp only [List.map_toArray, List.map_cons, List.map_nil]); first | done | rfl | (simp only [List.length_drop, List.length_take]; rfl)) ?_; (with_reducible refine (partitaref01_Compare.calls kj7 t221 t222 t225 t226 t229 _ A31.out).mono ?_); rintro e w53 ⟨rfl, hb⟩; refine ⟨_, rfl, ?_⟩; have n0_ := Aside0.mk (Kd.R_below (qR ((Kd.R_mono (Kd.R_far (p := ⟨gb228, 1, none⟩) (Kd.R_far (p := ⟨gb228, 0, none⟩) (Kd.R_mono HO_8.out (fun k_ hk => (⟨hk, hk.2⟩ : _ ∧ k_ ≠ gb228))) (fun _ hk => hk.2) (.int .i64 t225)) (fun _ hk => hk.2) (.int .i64 t226)) (fun _ h_ => h_.1)))) hb); have n1_ := Aside0.mk (blk_below (g := gb212) (o := .cells #[.int .i64 a0_0, .int .i64 a0_1, .slice A0_2 l0_2.length c0_2] 24 (0, 0)) (by (with_reducible repeat (first | refine blk_drewN ?_ _ | refine blk_drew ?_ | refine blk_alloc ?_ _)); refine blk_far ?_ NB212_228.out _; (with_reducible repeat (first | refine blk_drewN ?_ _ | refine blk_drew ?_ | refine blk_alloc ?_ _)); refine blk_far ?_ NB212_228.out _; (with_reducible repeat (first | refine blk_drewN ?_ _ | refine blk_drew ?_ | refine blk_alloc ?_ _)); exact BK212.out) hb); have n2_ := Aside0.mk (blk_below (g := gb213) (o := .cells #[.int .i64 a1_0, .int .i64 a1_1] 26 (0, 0)) (by (with_reducible repeat (first | refine blk_drewN ?_ _ | refine blk_drew ?_ | refine blk_alloc ?_ _)); refine blk_far ?_ NB213_228.out _; (with_reducible repeat (first | refine blk_drewN ?_ _ | refine blk_drew ?_ | refine blk_alloc ?_ _)); refine blk_far ?_ NB213_228.out _; (with_reducible repeat (first | refine blk_drewN ?_ _ | refine blk_drew ?_ | refine blk_alloc ?_ _)); exact BK213.out) hb); have n3_ := Aside0.mk (blk_below (g := gb214) (o := .cells #[.int .i64 a2_0, .int .i64 a2_1] 26 (0, 0)) (by (with_reducible repeat (first | refine blk_drewN ?_ _ | refine blk_drew ?_ | refine blk_alloc ?_ _)); refine blk_far ?_ NB214_228.out _; (with_reducible repeat (first | refine blk_drewN ?_ _ | refine blk_drew ?_ | refine blk_alloc ?_ _)); refine blk_far ?_ NB214_228.out _; (with_reducible repeat (first | refine blk_drewN ?_ _ | refine blk_drew ?_ | refine blk_alloc ?_ _)); exact BK214.out) hb); have n4_ := Aside0.mk (blk_below (g := gb224) (o := .cells #[.int .i64 t221, .int .i64 t222] 26 (0, 0)) (by (with_reducible repeat (first | refine blk_drewN ?_ _ | refine blk_drew ?_ | refine blk_alloc ?_ _)); refine blk_far ?_ NB224_228.out _; (with_reducible repeat (first | refine blk_drewN ?_ _ | refine blk_drew ?_ | refine blk_alloc ?_ _)); refine blk_far ?_ NB224_228.out _; (with_reducible repeat (first | refine blk_drewN ?_ _ | refine blk_drew ?_ | refine blk_alloc ?_ _)); exact BK224.out) hb); have n5_ := Aside0.mk (blk_below (g := gb228) (o := .cells #[.int .i64 t225, .int .i64 t226] 26 (0, 0)) (by (with_reducible repeat (first | refine blk_drewN ?_ _ | refine blk_drew ?_ | refine blk_alloc ?_ _)); refine blk_put (cs := #[.int .i64 t225, .int .i64 0]) ?_ 1 _ rfl; (with_reducible repeat (first | refine blk_drewN ?_ _ | refine blk_drew ?_ | refine blk_alloc ?_ _)); refine blk_put (cs := #[.int .i64 0, .int .i64 0]) ?_ 0 _ rfl; (with_reducible repeat (first | refine blk_drewN ?_ _ | refine blk_drew ?_ | refine blk_alloc ?_ _)); exact BK228.out) hb); have n6_ := Aside0.mk (below_step (by repeat (first | (with_reducible first | exact HB.out | apply below_alloc | apply pw_below_drewN | apply below_drew1 | refine below_set ?_ (Aside0.out (by assumption))) | exact HB.out)) hb); clear HO_8; clear BK212; clear BK213; clear BK214; clear BK224; clear BK228; clear HB; have HO_8 := n0_; have BK212 := n1_; have BK213 := n2_; have BK214 := n3_; have BK224 := n4_; have BK228 := n5_; have HB := n6_; clear n0_ n1_ n2_ n3_ n4_ n5_ n6_; (try clear hb); (try clear hb2); (try clear hk); (try clear hi)))
           go_ret2
           exact ⟨_, by first | rfl | (simp [errW_none, errW_some] <;> rfl) | (simp [*, errW_none, errW_some] <;> rfl), by first | exact Kd.R_nil _ _ _ _ _ | exact Kd.N_nil _ _ _ _ _ | exact Kd.V_nil _ _ _ _ _ | exact Kd.Q_nil _ _ _ _ _ | exact Kd.S_nil _ _ _ _ _, by repeat (first | (with_reducible first | exact HB.out | apply below_alloc | apply pw_below_drewN | apply below_drew1 | refine below_set ?_ (Aside0.out (by assumption))) | exact HB.out)⟩
         · rw [if_neg c32] at H
           have c32b0 : decide (0 < t229) = false := decide_eq_false c32
           clear c32
           obtain ⟨y230, hy230⟩ : ∃ y_ : List (S26), y_ = (([(⟨a1_0, a1_1⟩ : S26)] : List (S26))) := ⟨_, rfl⟩
           replace H : (partitaref05_Cut.l0 kj7 t215 y230 0 a1_0 a1_1 t221 t222) = some (r1, r2) := by first | (rw [hy230]; with_reducible exact H) | (have H2_ := (Option.bind_some _ _).symm.trans H; rw [hy230]; with_reducible exact H2_) | (have H2_ := (Option.bind_some _ _).symm.trans H; with_reducible exact H2_) | with_reducible exact H | (rw [hy230]; exact H) | exact H
           have Ny230 := Aside0.mk hy230
           clear hy230
           have H' := Aside0.mk H
           clear H
           have hnb54 := NB213_212.out
           have hnc54 := NB212_213.out
           have hnb55 := NB213_214.out
           have hnc55 := NB214_213.out
           have hcz56_0 : wc.cell? ⟨gb213, 0, none⟩ = some (.int .i64 a1_0) := (blk_cell BK213.out 0).trans rfl
           have hcz56_1 : wc.cell? ⟨gb213, 1, none⟩ = some (.int .i64 a1_1) := (blk_cell BK213.out 1).trans rfl
           have hfz56_0 := blk_frozen BK213.out 0
           have hfz56_1 := blk_frozen BK213.out 1
           have hnb57 := NB214_212.out
           have hnc57 := NB212_214.out
           have hcz58_0 : wc.cell? ⟨gb214, 0, none⟩ = some (.int .i64 a2_0) := (blk_cell BK214.out 0).trans rfl
           have hcz58_1 : wc.cell? ⟨gb214, 1, none⟩ = some (.int .i64 a2_1) := (blk_cell BK214.out 1).trans rfl
           have hfz58_0 := blk_frozen BK214.out 0
           have hfz58_1 := blk_frozen BK214.out 1
           go_wp2_with (first | ((with_reducible refine gate_callee (f := 41) rfl ?_); refine goesL_ (some 49) rfl rfl Try.func41 (by kernel_rfl) rfl #[.agg #[.int .i64 a1_0, .int .i64 a1_1], .agg #[.int .i64 a2_0, .int .i64 a2_1]] rfl (by (try simp only [List.map_toArray, List.map_cons, List.map_nil]); first | done | rfl | (simp only [List.length_drop, List.length_take]; rfl)) ?_; (with_reducible refine (partitaref01_Add.calls kj7 a1_0 a1_1 a2_0 a2_1 t221 t222 t223 _ A28.out).mono ?_); rintro e w59 ⟨rfl, hb⟩; refine ⟨_, rfl, ?_⟩; have n0_ := Aside0.mk (Kd.R_below (qR HO_8.out) hb); have n1_ := Aside0.mk (blk_below (qB BK212.out) hb); have n2_ := Aside0.mk (blk_below (qB BK213.out) hb); have n3_ := Aside0.mk (blk_below (qB BK214.out) hb); have n4_ := Aside0.mk (below_step (by repeat (first | (with_reducible first | exact HB.out | apply below_alloc | apply pw_below_drewN | apply below_drew1 | refine below_set ?_ (Aside0.out (by assumption))) | exact HB.out)) hb); clear HO_8; clear BK212; clear BK213; clear BK214; clear HB; have HO_8 := n0_; have BK212 := n1_; have BK213 := n2_; have BK214 := n3_; have HB := n4_; clear n0_ n1_ n2_ n3_ n4_; (try clear hb); (try clear hb2); (try clear hk); (try clear hi)) | ((with_reducible refine gate_dst (N := 12) rfl ?_); refine box_event ?hg (N := 12) ?hd (cs := #[.int .i64 0, .int .i64 0]) (t := 26) ?hr ?_; (case hd => rfl); (case hg => rfl); (case hr => first | (go_simp; done) | (go_simp; rfl)); intro gb224 hg w60 hbox hb; have n0_ := Aside0.mk (Kd.R_below (Kd.R_elderB (qR HO_8.out) gb224 (Nat.le_of_eq hg.symm)) hb); have n1_ := Aside0.mk (blk_below (qB BK212.out) hb); have n2_ := Aside0.mk (blk_below (qB BK213.out) hb); have n3_ := Aside0.mk (blk_below (qB BK214.out) hb); have n4_ := Aside0.mk (below_step (by repeat (first | (with_reducible first | exact HB.out | apply below_alloc | apply pw_below_drewN | apply below_drew1 | refine below_set ?_ (Aside0.out (by assumption))) | exact HB.out)) hb); have n5_ := Aside0.mk (hbox); have n6_ := Aside0.mk ((by rw [hg]; exact (below_size (by repeat (first | (with_reducible first | exact HB.out | apply below_alloc | apply pw_below_drewN | apply below_drew1 | refine below_set ?_ (Aside0.out (by assumption))) | exact HB.out))) : w.heap.size ≤ gb224)); have n7_ := Aside0.mk ((by rw [hg]; exact (below_size (by repeat (first | (with_reducible first | exact HB.out | apply below_alloc | apply pw_below_drewN | apply below_drew1 | refine below_set ?_ (Aside0.out (by assumption))) | exact HB.out))) : w.heap.size ≤ gb224)); have n8_ := Aside0.mk ((by rw [hg]; exact Nat.ne_of_lt (blk_lt (qB BK212.out)) : gb212 ≠ gb224)); have n9_ := Aside0.mk ((by rw [hg]; exact Nat.ne_of_gt (blk_lt (qB BK212.out)) : gb224 ≠ gb212)); have n10_ := Aside0.mk ((by rw [hg]; exact Nat.ne_of_lt (blk_lt (qB BK213.out)) : gb213 ≠ gb224)); have n11_ := Aside0.mk ((by rw [hg]; exact Nat.ne_of_gt (blk_lt (qB BK213.out)) : gb224 ≠ gb213)); have n12_ := Aside0.mk ((by rw [hg]; exact Nat.ne_of_lt (blk_lt (qB BK214.out)) : gb214 ≠ gb224)); have n13_ := Aside0.mk ((by rw [hg]; exact Nat.ne_of_gt (blk_lt (qB BK214.out)) : gb224 ≠ gb214)); clear HO_8; clear BK212; clear BK213; clear BK214; clear HB; have HO_8 := n0_; have BK212 := n1_; have BK213 := n2_; have BK214 := n3_; have HB := n4_; have BK224 := n5_; have GW224 := n6_; have GE224 := n7_; have NB212_224 := n8_; have NB224_212 := n9_; have NB213_224 := n10_; have NB224_213 := n11_; have NB214_224 := n12_; have NB224_214 := n13_; clear n0_ n1_ n2_ n3_ n4_ n5_ n6_ n7_ n8_ n9_ n10_ n11_ n12_ n13_; clear hb hbox hg; have hnb61 := NB224_212.out; have hnc61 := NB212_224.out; have hnb62 := NB224_213.out; have hnc62 := NB213_224.out; have hnb63 := NB224_214.out; have hnc63 := NB214_224.out; have hcz64_0 : w60.cell? ⟨gb224, 0, none⟩ = some (.int .i64 0) := (blk_cell BK224.out 0).trans rfl; have hcz64_1 : w60.cell? ⟨gb224, 1, none⟩ = some (.int .i64 0) := (blk_cell BK224.out 1).trans rfl; have hfz64_0 := blk_frozen BK224.out 0; have hfz64_1 := blk_frozen BK224.out 1; have hcz65_0 : w60.cell? ⟨gb212, 0, none⟩ = some (.int .i64 a0_0) := (blk_cell BK212.out 0).trans rfl; have hcz65_1 : w60.cell? ⟨gb212, 1, none⟩ = some (.int .i64 a0_1) := (blk_cell BK212.out 1).trans rfl; have hcz65_2 : w60.cell? ⟨gb212, 2, none⟩ = some (.slice A0_2 l0_2.length c0_2) := (blk_cell BK212.out 2).trans rfl; have hfz65_0 := blk_frozen BK212.out 0; have hfz65_1 := blk_frozen BK212.out 1; have hfz65_2 := blk_frozen BK212.out 2) | ((with_reducible refine gate_callee (f := 13) rfl ?_); refine goesL_ (some 57) rfl rfl Try.func13 (by kernel_rfl) rfl #[.agg #[.int .i64 a0_0, .int .i64 a0_1, .slice A0_2 l0_2.length c0_2]] rfl (by (try simp only [List.map_toArray, List.map_cons, List.map_nil]); first | done | rfl | (simp only [List.length_drop, List.length_take]; rfl)) ?_; (with_reducible refine (partitaref05_Length.calls kj7 a0_0 a0_1 _ _ l0_2 t225 t226 t227 _ ?side1 ?side2 A30.out).mono ?_); (case side1 => exact Kd.C_below HR0_2.out (by repeat (first | (with_reducible first | exact HB.out | apply below_alloc | apply pw_below_drewN | apply below_drew1 | refine below_set ?_ (Aside0.out (by assumption))) | exact HB.out))); (case side2 => exact HC0_2.out); rintro e w66 ⟨rfl, hb⟩; refine ⟨_, rfl, ?_⟩; have n0_ := Aside0.mk (Kd.R_below (qR ((Kd.R_mono (Kd.R_far (p := ⟨gb224, 1, none⟩) (Kd.R_far (p := ⟨gb224, 0, none⟩) (Kd.R_mono HO_8.out (fun k_ hk => (⟨hk, hk.2⟩ : _ ∧ k_ ≠ gb224))) (fun _ hk => hk.2) (.int .i64 t221)) (fun _ hk => hk.2) (.int .i64 t222)) (fun _ h_ => h_.1)))) hb); have n1_ := Aside0.mk (blk_below (g := gb212) (o := .cells #[.int .i64 a0_0, .int .i64 a0_1, .slice A0_2 l0_2.length c0_2] 24 (0, 0)) (by (with_reducible repeat (first | refine blk_drewN ?_ _ | refine blk_drew ?_ | refine blk_alloc ?_ _)); refine blk_far ?_ NB212_224.out _; (with_reducible repeat (first | refine blk_drewN ?_ _ | refine blk_drew ?_ | refine blk_alloc ?_ _)); refine blk_far ?_ NB212_224.out _; (with_reducible repeat (first | refine blk_drewN ?_ _ | refine blk_drew ?_ | refine blk_alloc ?_ _)); exact BK212.out) hb); have n2_ := Aside0.mk (blk_below (g := gb213) (o := .cells #[.int .i64 a1_0, .int .i64 a1_1] 26 (0, 0)) (by (with_reducible repeat (first | refine blk_drewN ?_ _ | refine blk_drew ?_ | refine blk_alloc ?_ _)); refine blk_far ?_ NB213_224.out _; (with_reducible repeat (first | refine blk_drewN ?_ _ | refine blk_drew ?_ | refine blk_alloc ?_ _)); refine blk_far ?_ NB213_224.out _; (with_reducible repeat (first | refine blk_drewN ?_ _ | refine blk_drew ?_ | refine blk_alloc ?_ _)); exact BK213.out) hb); have n3_ := Aside0.mk (blk_below (g := gb214) (o := .cells #[.int .i64 a2_0, .int .i64 a2_1] 26 (0, 0)) (by (with_reducible repeat (first | refine blk_drewN ?_ _ | refine blk_drew ?_ | refine blk_alloc ?_ _)); refine blk_far ?_ NB214_224.out _; (with_reducible repeat (first | refine blk_drewN ?_ _ | refine blk_drew ?_ | refine blk_alloc ?_ _)); refine blk_far ?_ NB214_224.out _; (with_reducible repeat (first | refine blk_drewN ?_ _ | refine blk_drew ?_ | refine blk_alloc ?_ _)); exact BK214.out) hb); have n4_ := Aside0.mk (blk_below (g := gb224) (o := .cells #[.int .i64 t221, .int .i64 t222] 26 (0, 0)) (by (with_reducible repeat (first | refine blk_drewN ?_ _ | refine blk_drew ?_ | refine blk_alloc ?_ _)); refine blk_put (cs := #[.int .i64 t221, .int .i64 0]) ?_ 1 _ rfl; (with_reducible repeat (first | refine blk_drewN ?_ _ | refine blk_drew ?_ | refine blk_alloc ?_ _)); refine blk_put (cs := #[.int .i64 0, .int .i64 0]) ?_ 0 _ rfl; (with_reducible repeat (first | refine blk_drewN ?_ _ | refine blk_drew ?_ | refine blk_alloc ?_ _)); exact BK224.out) hb); have n5_ := Aside0.mk (below_step (by repeat (first | (with_reducible first | exact HB.out | apply below_alloc | apply pw_below_drewN | apply below_drew1 | refine below_set ?_ (Aside0.out (by assumption))) | exact HB.out)) hb); clear HO_8; clear BK212; clear BK213; clear BK214; clear BK224; clear HB; have HO_8 := n0_; have BK212 := n1_; have BK213 := n2_; have BK214 := n3_; have BK224 := n4_; have HB := n5_; clear n0_ n1_ n2_ n3_ n4_ n5_; (try clear hb); (try clear hb2); (try clear hk); (try clear hi)) | ((with_reducible refine gate_dst (N := 14) rfl ?_); refine box_event ?hg (N := 14) ?hd (cs := #[.int .i64 0, .int .i64 0]) (t := 26) ?hr ?_; (case hd => rfl); (case hg => rfl); (case hr => first | (go_simp; done) | (go_simp; rfl)); intro gb228 hg w67 hbox hb; have n0_ := Aside0.mk (Kd.R_below (Kd.R_elderB (qR HO_8.out) gb228 (Nat.le_of_eq hg.symm)) hb); have n1_ := Aside0.mk (blk_below (qB BK212.out) hb); have n2_ := Aside0.mk (blk_below (qB BK213.out) hb); have n3_ := Aside0.mk (blk_below (qB BK214.out) hb); have n4_ := Aside0.mk (blk_below (qB BK224.out) hb); have n5_ := Aside0.mk (below_step (by repeat (first | (with_reducible first | exact HB.out | apply below_alloc | apply pw_below_drewN | apply below_drew1 | refine below_set ?_ (Aside0.out (by assumption))) | exact HB.out)) hb); have n6_ := Aside0.mk (hbox); have n7_ := Aside0.mk ((by rw [hg]; exact (below_size (by repeat (first | (with_reducible first | exact HB.out | apply below_alloc | apply pw_below_drewN | apply below_drew1 | refine below_set ?_ (Aside0.out (by assumption))) | exact HB.out))) : w.heap.size ≤ gb228)); have n8_ := Aside0.mk ((by rw [hg]; exact (below_size (by repeat (first | (with_reducible first | exact HB.out | apply below_alloc | apply pw_below_drewN | apply below_drew1 | refine below_set ?_ (Aside0.out (by assumption))) | exact HB.out))) : w.heap.size ≤ gb228)); have n9_ := Aside0.mk ((by rw [hg]; exact Nat.ne_of_lt (blk_lt (qB BK212.out)) : gb212 ≠ gb228)); have n10_ := Aside0.mk ((by rw [hg]; exact Nat.ne_of_gt (blk_lt (qB BK212.out)) : gb228 ≠ gb212)); have n11_ := Aside0.mk ((by rw [hg]; exact Nat.ne_of_lt (blk_lt (qB BK213.out)) : gb213 ≠ gb228)); have n12_ := Aside0.mk ((by rw [hg]; exact Nat.ne_of_gt (blk_lt (qB BK213.out)) : gb228 ≠ gb213)); have n13_ := Aside0.mk ((by rw [hg]; exact Nat.ne_of_lt (blk_lt (qB BK214.out)) : gb214 ≠ gb228)); have n14_ := Aside0.mk ((by rw [hg]; exact Nat.ne_of_gt (blk_lt (qB BK214.out)) : gb228 ≠ gb214)); have n15_ := Aside0.mk ((by rw [hg]; exact Nat.ne_of_lt (blk_lt (qB BK224.out)) : gb224 ≠ gb228)); have n16_ := Aside0.mk ((by rw [hg]; exact Nat.ne_of_gt (blk_lt (qB BK224.out)) : gb228 ≠ gb224)); clear HO_8; clear BK212; clear BK213; clear BK214; clear BK224; clear HB; have HO_8 := n0_; have BK212 := n1_; have BK213 := n2_; have BK214 := n3_; have BK224 := n4_; have HB := n5_; have BK228 := n6_; have GW228 := n7_; have GE228 := n8_; have NB212_228 := n9_; have NB228_212 := n10_; have NB213_228 := n11_; have NB228_213 := n12_; have NB214_228 := n13_; have NB228_214 := n14_; have NB224_228 := n15_; have NB228_224 := n16_; clear n0_ n1_ n2_ n3_ n4_ n5_ n6_ n7_ n8_ n9_ n10_ n11_ n12_ n13_ n14_ n15_ n16_; clear hb hbox hg; have hnb68 := NB228_212.out; have hnc68 := NB212_228.out; have hnb69 := NB228_213.out; have hnc69 := NB213_228.out; have hnb70 := NB228_214.out; have hnc70 := NB214_228.out; have hnb71 := NB228_224.out; have hnc71 := NB224_228.out; have hcz72_0 : w67.cell? ⟨gb228, 0, none⟩ = some (.int .i64 0) := (blk_cell BK228.out 0).trans rfl; have hcz72_1 : w67.cell? ⟨gb228, 1, none⟩ = some (.int .i64 0) := (blk_cell BK228.out 1).trans rfl; have hfz72_0 := blk_frozen BK228.out 0; have hfz72_1 := blk_frozen BK228.out 1; have hcz73_0 : w67.cell? ⟨gb224, 0, none⟩ = some (.int .i64 t221) := (blk_cell BK224.out 0).trans rfl; have hcz73_1 : w67.cell? ⟨gb224, 1, none⟩ = some (.int .i64 t222) := (blk_cell BK224.out 1).trans rfl; have hfz73_0 := blk_frozen BK224.out 0; have hfz73_1 := blk_frozen BK224.out 1) | ((with_reducible refine gate_callee (f := 42) rfl ?_); refine goesL_ (some 62) rfl rfl Try.func42 (by kernel_rfl) rfl #[.agg #[.int .i64 t221, .int .i64 t222], .agg #[.int .i64 t225, .int .i64 t226]] rfl (by (try simp only [List.map_toArray, List.map_cons, List.map_nil]); first | done | rfl | (simp only [List.length_drop, List.length_take]; rfl)) ?_; (with_reducible refine (partitaref01_Compare.calls kj7 t221 t222 t225 t226 t229 _ A31.out).mono ?_); rintro e w74 ⟨rfl, hb⟩; refine ⟨_, rfl, ?_⟩; have n0_ := Aside0.mk (Kd.R_below (qR ((Kd.R_mono (Kd.R_far (p := ⟨gb228, 1, none⟩) (Kd.R_far (p := ⟨gb228, 0, none⟩) (Kd.R_mono HO_8.out (fun k_ hk => (⟨hk, hk.2⟩ : _ ∧ k_ ≠ gb228))) (fun _ hk => hk.2) (.int .i64 t225)) (fun _ hk => hk.2) (.int .i64 t226)) (fun _ h_ => h_.1)))) hb); have n1_ := Aside0.mk (blk_below (g := gb212) (o := .cells #[.int .i64 a0_0, .int .i64 a0_1, .slice A0_2 l0_2.length c0_2] 24 (0, 0)) (by (with_reducible repeat (first | refine blk_drewN ?_ _ | refine blk_drew ?_ | refine blk_alloc ?_ _)); refine blk_far ?_ NB212_228.out _; (with_reducible repeat (first | refine blk_drewN ?_ _ | refine blk_drew ?_ | refine blk_alloc ?_ _)); refine blk_far ?_ NB212_228.out _; (with_reducible repeat (first | refine blk_drewN ?_ _ | refine blk_drew ?_ | refine blk_alloc ?_ _)); exact BK212.out) hb); have n2_ := Aside0.mk (blk_below (g := gb213) (o := .cells #[.int .i64 a1_0, .int .i64 a1_1] 26 (0, 0)) (by (with_reducible repeat (first | refine blk_drewN ?_ _ | refine blk_drew ?_ | refine blk_alloc ?_ _)); refine blk_far ?_ NB213_228.out _; (with_reducible repeat (first | refine blk_drewN ?_ _ | refine blk_drew ?_ | refine blk_alloc ?_ _)); refine blk_far ?_ NB213_228.out _; (with_reducible repeat (first | refine blk_drewN ?_ _ | refine blk_drew ?_ | refine blk_alloc ?_ _)); exact BK213.out) hb); have n3_ := Aside0.mk (blk_below (g := gb214) (o := .cells #[.int .i64 a2_0, .int .i64 a2_1] 26 (0, 0)) (by (with_reducible repeat (first | refine blk_drewN ?_ _ | refine blk_drew ?_ | refine blk_alloc ?_ _)); refine blk_far ?_ NB214_228.out _; (with_reducible repeat (first | refine blk_drewN ?_ _ | refine blk_drew ?_ | refine blk_alloc ?_ _)); refine blk_far ?_ NB214_228.out _; (with_reducible repeat (first | refine blk_drewN ?_ _ | refine blk_drew ?_ | refine blk_alloc ?_ _)); exact BK214.out) hb); have n4_ := Aside0.mk (blk_below (g := gb224) (o := .cells #[.int .i64 t221, .int .i64 t222] 26 (0, 0)) (by (with_reducible repeat (first | refine blk_drewN ?_ _ | refine blk_drew ?_ | refine blk_alloc ?_ _)); refine blk_far ?_ NB224_228.out _; (with_reducible repeat (first | refine blk_drewN ?_ _ | refine blk_drew ?_ | refine blk_alloc ?_ _)); refine blk_far ?_ NB224_228.out _; (with_reducible repeat (first | refine blk_drewN ?_ _ | refine blk_drew ?_ | refine blk_alloc ?_ _)); exact BK224.out) hb); have n5_ := Aside0.mk (blk_below (g := gb228) (o := .cells #[.int .i64 t225, .int .i64 t226] 26 (0, 0)) (by (with_reducible repeat (first | refine blk_drewN ?_ _ | refine blk_drew ?_ | refine blk_alloc ?_ _)); refine blk_put (cs := #[.int .i64 t225, .int .i64 0]) ?_ 1 _ rfl; (with_reducible repeat (first | refine blk_drewN ?_ _ | refine blk_drew ?_ | refine blk_alloc ?_ _)); refine blk_put (cs := #[.int .i64 0, .int .i64 0]) ?_ 0 _ rfl; (with_reducible repeat (first | refine blk_drewN ?_ _ | refine blk_drew ?_ | refine blk_alloc ?_ _)); exact BK228.out) hb); have n6_ := Aside0.mk (below_step (by repeat (first | (with_reducible first | exact HB.out | apply below_alloc | apply pw_below_drewN | apply below_drew1 | refine below_set ?_ (Aside0.out (by assumption))) | exact HB.out)) hb); clear HO_8; clear BK212; clear BK213; clear BK214; clear BK224; clear BK228; clear HB; have HO_8 := n0_; have BK212 := n1_; have BK213 := n2_; have BK214 := n3_; have BK224 := n4_; have BK228 := n5_; have HB := n6_; clear n0_ n1_ n2_ n3_ n4_ n5_ n6_; (try clear hb); (try clear hb2); (try clear hk); (try clear hi); have hcz75_0 : w74.cell? ⟨gb213, 0, none⟩ = some (.int .i64 a1_0) := (blk_cell BK213.out 0).trans rfl; have hcz75_1 : w74.cell? ⟨gb213, 1, none⟩ = some (.int .i64 a1_1) := (blk_cell BK213.out 1).trans rfl; have hfz75_0 := blk_frozen BK213.out 0; have hfz75_1 := blk_frozen BK213.out 1) | ((with_reducible refine gate_dst (N := 65) rfl ?_); refine Kd.R_lit k26 _ 26 ?hg (N := 65) ?hd (xs := ([(⟨a1_0, a1_1⟩ : S26)] : List (S26))) (inner := [.int .i64 a1_0, .int .i64 a1_1]) (ok := fun _ => True) (okp := fun _ => True) ?hr ?hp (fun _ hk => hk) trivial (Below.refl _ _) (Nat.le_refl _) (by simp) ?_; (case hd => rfl); (case hg => rfl); (case hr => first | (go_simp; done) | (go_simp; rfl)); (case hp => exact (Reps.c2 (show Kd.M k26 _ _ _ (⟨a1_0, a1_1⟩ : S26) [.int .i64 a1_0, .int .i64 a1_1] from (k26_mkM _ _ _ (⟨a1_0, a1_1⟩ : S26) )) (Reps.none _ _))); intro v231 w76 ho77 hb hg_ hnew_; clear hg_ hnew_; (first | rw [← Ny230.out] at ho77 | (simp only [Int.reduceToNat] at ho77; rw [← Ny230.out] at ho77)); have n0_ := Aside0.mk (Kd.R_elder' (qR HO_8.out) (Kd.R_base ho77) hb); have n1_ := Aside0.mk (Kd.R_lower (Kd.R_newB (Kd.R_newB (Kd.R_newB (Kd.R_newB (Kd.R_new' ho77 (Kd.R_lt (qR HO_8.out))) (qB BK213.out)) (qB BK214.out)) (qB BK224.out)) (qB BK228.out)) (below_size (by repeat (first | (with_reducible first | exact HB.out | apply below_alloc | apply pw_below_drewN | apply below_drew1 | refine below_set ?_ (Aside0.out (by assumption))) | exact HB.out)))); have n2_ := Aside0.mk (blk_below (qB BK212.out) hb); have n3_ := Aside0.mk (blk_below (qB BK213.out) hb); have n4_ := Aside0.mk (blk_below (qB BK214.out) hb); have n5_ := Aside0.mk (blk_below (qB BK224.out) hb); have n6_ := Aside0.mk (blk_below (qB BK228.out) hb); have n7_ := Aside0.mk (below_step (by repeat (first | (with_reducible first | exact HB.out | apply below_alloc | apply pw_below_drewN | apply below_drew1 | refine below_set ?_ (Aside0.out (by assumption))) | exact HB.out)) hb); clear HO_8; clear BK212; clear BK213; clear BK214; clear BK224; clear BK228; clear HB; have HO_8 := n0_; have HO232 := n1_; have BK212 := n2_; have BK213 := n3_; have BK214 := n4_; have BK224 := n5_; have BK228 := n6_; have HB := n7_; clear n0_ n1_ n2_ n3_ n4_ n5_ n6_ n7_; clear hb ho77))
           go_loopg [16, 17] kj7 (fun kq v16 v17 w' => ∃ (x16_2 : List (S26)) (x17_2 : Int), v17 = .int .i64 x17_2 ∧ Aside0 (partitaref05_Cut.l0 kq t215 x16_2 x17_2 a1_0 a1_1 t221 t222 = some (r1, r2)) ∧ Aside0 (kq ≤ kj7) ∧ Aside0 (Kd.R k26 26 w' w.heap.size (fun k_ => some k_ ≠ (v16 : Value).ownBlock ∧ k_ ≠ gb213 ∧ k_ ≠ gb214 ∧ k_ ≠ gb224 ∧ k_ ≠ gb228) v216 t215) ∧ Aside0 (Kd.R k26 26 w' w.heap.size (fun k_ => some k_ ≠ (v216 : Value).ownBlock ∧ k_ ≠ gb213 ∧ k_ ≠ gb214 ∧ k_ ≠ gb224 ∧ k_ ≠ gb228) v16 x16_2) ∧ Aside0 (w'.heap[gb212]? = some (.cells #[.int .i64 a0_0, .int .i64 a0_1, (.slice A0_2 l0_2.length c0_2)] 24 (0, 0))) ∧ Aside0 (w'.heap[gb213]? = some (.cells #[.int .i64 a1_0, .int .i64 a1_1] 26 (0, 0))) ∧ Aside0 (w'.heap[gb214]? = some (.cells #[.int .i64 a2_0, .int .i64 a2_1] 26 (0, 0))) ∧ Aside0 (w'.heap[gb224]? = some (.cells #[.int .i64 t221, .int .i64 t222] 26 (0, 0))) ∧ Aside0 (w'.heap[gb228]? = some (.cells #[.int .i64 t225, .int .i64 t226] 26 (0, 0))) ∧ Aside0 (Below w.heap.size w w'))
           case atStart => exact ⟨(y230), (0), (by first | rfl | (simp; done) | (simp [*]; done)), H', ⟨Nat.le_refl _⟩, ⟨by (with_reducible repeat (first | apply Kd.R_alloc | apply Kd.R_drewN | apply Kd.R_drew)); exact Kd.R_mono HO_8.out (fun _ hk => ⟨hk.2, ⟨hk.1.1.1.1, ⟨hk.1.1.1.2, ⟨hk.1.1.2, hk.1.2⟩⟩⟩⟩)⟩, ⟨by (with_reducible repeat (first | apply Kd.R_alloc | apply Kd.R_drewN | apply Kd.R_drew)); exact Kd.R_mono HO232.out (fun _ hk => ⟨hk.1.1.1.1.2, ⟨hk.1.1.1.2, ⟨hk.1.1.2, ⟨hk.1.2, hk.2⟩⟩⟩⟩)⟩, ⟨by (with_reducible repeat (first | refine blk_drewN ?_ _ | refine blk_drew ?_ | refine blk_alloc ?_ _)); exact BK212.out⟩, ⟨by (with_reducible repeat (first | refine blk_drewN ?_ _ | refine blk_drew ?_ | refine blk_alloc ?_ _)); exact BK213.out⟩, ⟨by (with_reducible repeat (first | refine blk_drewN ?_ _ | refine blk_drew ?_ | refine blk_alloc ?_ _)); exact BK214.out⟩, ⟨by (with_reducible repeat (first | refine blk_drewN ?_ _ | refine blk_drew ?_ | refine blk_alloc ?_ _)); exact BK224.out⟩, ⟨by (with_reducible repeat (first | refine blk_drewN ?_ _ | refine blk_drew ?_ | refine blk_alloc ?_ _)); exact BK228.out⟩, ⟨by repeat (first | (with_reducible first | exact HB.out | apply below_alloc | apply pw_below_drewN | apply below_drew1 | refine below_set ?_ (Aside0.out (by assumption))) | exact HB.out)⟩⟩
           case round =>
            clear H'
            try clear c1
            try clear c2
            try clear p2
            try clear c3
            try clear c4
            try clear c5
            try clear c5b0
            try clear c5b1
            try clear c6
            try clear c7
            try clear c12
            try clear c13
            try clear c15
            try clear c17
            try clear c22
            try clear c23
            try clear c24
            try clear c25
            try clear c27
            try clear c29
            try clear c29b0
            try clear c29b1
            try clear c32
            try clear c32b0
            try clear c33
            try clear c34
            try clear c36
            try clear c37
            try clear c40
            try clear c41
            try clear c42
            try clear c47
            try clear c48
            try clear c49
            try clear c50
            try clear c54
            try clear c55
            try clear c57
            try clear c61
            try clear c62
            try clear c63
            try clear c68
            try clear c69
            try clear c70
            try clear c71
            try clear hcz14_0
            try clear hcz14_1
            try clear hcz14_2
            try clear hcz16_0
            try clear hcz16_1
            try clear hcz16_2
            try clear hcz18_0
            try clear hcz18_1
            try clear hcz20_0
            try clear hcz20_1
            try clear hcz26_0
            try clear hcz26_1
            try clear hcz35_0
            try clear hcz35_1
            try clear hcz37_0
            try clear hcz37_1
            try clear hcz43_0
            try clear hcz43_1
            try clear hcz44_0
            try clear hcz44_1
            try clear hcz44_2
            try clear hcz51_0
            try clear hcz51_1
            try clear hcz52_0
            try clear hcz52_1
            try clear hcz56_0
            try clear hcz56_1
            try clear hcz58_0
            try clear hcz58_1
            try clear hcz64_0
            try clear hcz64_1
            try clear hcz65_0
            try clear hcz65_1
            try clear hcz65_2
            try clear hcz72_0
            try clear hcz72_1
            try clear hcz73_0
            try clear hcz73_1
            try clear hcz75_0
            try clear hcz75_1
            try clear hfz14_0
            try clear hfz14_1
            try clear hfz14_2
            try clear hfz16_0
            try clear hfz16_1
            try clear hfz16_2
            try clear hfz18_0
            try clear hfz18_1
            try clear hfz20_0
            try clear hfz20_1
            try clear hfz26_0
            try clear hfz26_1
            try clear hfz35_0
            try clear hfz35_1
            try clear hfz37_0
            try clear hfz37_1
            try clear hfz43_0
            try clear hfz43_1
            try clear hfz44_0
            try clear hfz44_1
            try clear hfz44_2
            try clear hfz51_0
            try clear hfz51_1
            try clear hfz52_0
            try clear hfz52_1
            try clear hfz56_0
            try clear hfz56_1
            try clear hfz58_0
            try clear hfz58_1
            try clear hfz64_0
            try clear hfz64_1
            try clear hfz65_0
            try clear hfz65_1
            try clear hfz65_2
            try clear hfz72_0
            try clear hfz72_1
            try clear hfz73_0
            try clear hfz73_1
            try clear hfz75_0
            try clear hfz75_1
            try clear p2
            obtain ⟨x16_2, x17_2, rfl, HA, HK2, HO_8, HO_16, BK212, BK213, BK214, BK224, BK228, HB⟩ := hrel
            cases gk with
            | zero => exact absurd HA.out (by simp [partitaref05_Cut.l0])
            | succ k2 =>
             have H := HA.out
             clear HA
             simp only [partitaref05_Cut.l0] at H
             by_cases c78 : x17_2 < (t215.length : Int)
             · rw [if_pos c78] at H
               have c78b0 : decide (x17_2 < (t215.length : Int)) = true := decide_eq_true c78
               clear c78
               by_cases c79 : 0 ≤ x17_2
               · rw [if_pos c79] at H
                 have c79b0 : decide (0 ≤ x17_2) = true := decide_eq_true c79
                 clear c79
                 replace H := Option.bind_eq_some_iff.mp H
                 obtain ⟨t234, A800, H⟩ := H
                 replace H : (if t234 > 0 then ((partitaref01_Compare.f k2 ((rd_T26 t215 x17_2).f0) ((rd_T26 t215 x17_2).f1) t221 t222).bind fun t236 => (if t236 < 0 then (if x16_2.length < 8796093022208 then (partitaref05_Cut.l0 k2 t215 (x16_2 ++ [(⟨(rd_T26 t215 x17_2).f0, (rd_T26 t215 x17_2).f1⟩ : S26)]) (wrap64 (x17_2 + 1)) a1_0 a1_1 t221 t222) else (none)) else (partitaref05_Cut.l0 k2 t215 x16_2 (wrap64 (x17_2 + 1)) a1_0 a1_1 t221 t222))) else (partitaref05_Cut.l0 k2 t215 x16_2 (wrap64 (x17_2 + 1)) a1_0 a1_1 t221 t222)) = some (r1, r2) := H
                 have A80 := Aside0.mk A800
                 clear A800
                 by_cases c81 : t234 > 0
                 · rw [if_pos c81] at H
                   have c81b0 : decide (0 < t234) = true := decide_eq_true c81
                   clear c81
                   replace H := Option.bind_eq_some_iff.mp H
                   obtain ⟨t236, A820, H⟩ := H
                   replace H : (if t236 < 0 then (if x16_2.length < 8796093022208 then (partitaref05_Cut.l0 k2 t215 (x16_2 ++ [(⟨(rd_T26 t215 x17_2).f0, (rd_T26 t215 x17_2).f1⟩ : S26)]) (wrap64 (x17_2 + 1)) a1_0 a1_1 t221 t222) else (none)) else (partitaref05_Cut.l0 k2 t215 x16_2 (wrap64 (x17_2 + 1)) a1_0 a1_1 t221 t222)) = some (r1, r2) := H
                   have A82 := Aside0.mk A820
                   clear A820
                   by_cases c83 : t236 < 0
                   · rw [if_pos c83] at H
                     have c83b0 : decide (t236 < 0) = true := decide_eq_true c83
                     clear c83
                     by_cases c84 : x16_2.length < 8796093022208
                     · rw [if_pos c84] at H
                       have LMc84 := Aside0.mk c84
                       clear c84
                       obtain ⟨y238, hy238⟩ : ∃ y_ : List (S26), y_ = (x16_2 ++ [(⟨(rd_T26 t215 x17_2).f0, (rd_T26 t215 x17_2).f1⟩ : S26)]) := ⟨_, rfl⟩
                       replace H : (partitaref05_Cut.l0 k2 t215 y238 (wrap64 (x17_2 + 1)) a1_0 a1_1 t221 t222) = some (r1, r2) := by first | (rw [hy238]; with_reducible exact H) | (have H2_ := (Option.bind_some _ _).symm.trans H; rw [hy238]; with_reducible exact H2_) | (have H2_ := (Option.bind_some _ _).symm.trans H; with_reducible exact H2_) | with_reducible exact H | (rw [hy238]; exact H) | exact H
                       have Ny238 := Aside0.mk hy238
                       clear hy238
                       have H' := Aside0.mk H
                       clear H
                       obtain ⟨Ao85, co85, eo85⟩ := Kd.R_slice HO_8.out
                       subst eo85
                       try go_wp2
                       have n0_ := Aside0.mk (Kd.R_drew HO_8.out)
                       have n1_ := Aside0.mk (Kd.R_drew HO_16.out)
                       have n2_ := Aside0.mk (blk_drew BK212.out)
                       have n3_ := Aside0.mk (blk_drew BK213.out)
                       have n4_ := Aside0.mk (blk_drew BK214.out)
                       have n5_ := Aside0.mk (blk_drew BK224.out)
                       have n6_ := Aside0.mk (blk_drew BK228.out)
                       have n7_ := Aside0.mk (below_drew1 HB.out)
                       clear HO_8
                       clear HO_16
                       clear BK212
                       clear BK213
                       clear BK214
                       clear BK224
                       clear BK228
                       clear HB
                       have HO_8 := n0_
                       have HO_16 := n1_
                       have BK212 := n2_
                       have BK213 := n3_
                       have BK214 := n4_
                       have BK224 := n5_
                       have BK228 := n6_
                       have HB := n7_
                       clear n0_ n1_ n2_ n3_ n4_ n5_ n6_ n7_
                       have p233 : 0 ≤ (x17_2 : Int) := of_decide_eq_true (by first | (with_reducible assumption) | assumption)
                       have q233 : x17_2 < (t215.length : Int) := of_decide_eq_true (by first | (with_reducible assumption) | assumption)
                       obtain ⟨ad233, e233, hx233_0, hx233_1⟩ := at_T26 (Kd.R_reads' HO_8.out).2.2 x17_2 p233 q233
                       cases e233
                       replace p233 := eq_true p233
                       replace q233 := eq_true q233
                       have p235 : 0 ≤ (x17_2 : Int) := of_decide_eq_true (by first | (with_reducible assumption) | assumption)
                       have q235 : x17_2 < (t215.length : Int) := of_decide_eq_true (by first | (with_reducible assumption) | assumption)
                       obtain ⟨ad235, e235, hx235_0, hx235_1⟩ := at_T26 (Kd.R_reads' HO_8.out).2.2 x17_2 p235 q235
                       obtain rfl : ad233 = ad235 := (by injection e235)
                       replace p235 := eq_true p235
                       replace q235 := eq_true q235
                       refine start_ (n := 16) (S := fun w' => w'.cell? ⟨gb213, 0, none⟩ = some (.int .i64 a1_0) ∧ w'.cell? ⟨gb213, 1, none⟩ = some (.int .i64 a1_1) ∧ w'.cell? ⟨gb224, 0, none⟩ = some (.int .i64 t221) ∧ w'.cell? ⟨gb224, 1, none⟩ = some (.int .i64 t222) ∧ w'.cell? (ad233.add ((x17_2).toNat * 2)) = some (.int .i64 ((rd_T26 t215 x17_2).f0)) ∧ w'.cell? ⟨(ad233.add ((x17_2).toNat * 2)).block, (ad233.add ((x17_2).toNat * 2)).off + 1, none⟩ = some (.int .i64 ((rd_T26 t215 x17_2).f1)) ∧ w'.cell? (ad233.add ((x17_2).toNat * 2)) = some (.int .i64 ((rd_T26 t215 x17_2).f0)) ∧ w'.cell? ⟨(ad233.add ((x17_2).toNat * 2)).block, (ad233.add ((x17_2).toNat * 2)).off + 1, none⟩ = some (.int .i64 ((rd_T26 t215 x17_2).f1))) (ds := []) #[false, false, false, false, false, false, false, false, false, false, false, false, false, false, false, false] (by kernel_rfl) rfl rfl ⟨(blk_cell BK213.out 0).trans rfl, (blk_cell BK213.out 1).trans rfl, (blk_cell BK224.out 0).trans rfl, (blk_cell BK224.out 1).trans rfl, hx233_0, hx233_1, hx235_0, hx235_1⟩ (fun hHeld => ?_); refine with_tabW partitaref05_Cut.tab18 partitaref05_Cut.bits18 (fun HT_ HW_ => ?_)
                       generalize wr.drew = w86 at HO_8 HO_16 BK212 BK213 BK214 BK224 BK228 HB hx233_0 hx233_1 hx235_0 hx235_1 hHeld ⊢
                       refine pure_ (i := 0) (N := some 72) (v := ?_) (a' := ?_) #[true, false, false, false, false, false, false, false, false, false, false, false, false, false, false, false] rfl rfl (any_of HT_.out (by kernel_rfl)) (fun _ _ _ h => h) (Or.inl ⟨by rfl, ?_⟩) ?_ ?_
                       rotate_left
                       · intro w'
                         go_simp
                         with_reducible rfl
                       rotate_left
                       · simp only [Act.put, qa_, qz_, qs_, i64_w, i32_w]
                         rfl
                       refine pure_ (i := 1) (N := some 73) (v := ?_) (a' := ?_) #[true, true, false, false, false, false, false, false, false, false, false, false, false, false, false, false] rfl rfl (any_of HT_.out (by kernel_rfl)) (fun _ _ _ h => h) (Or.inl ⟨by rfl, ?_⟩) ?_ ?_
                       rotate_left
                       · intro w'
                         go_simp
                         with_reducible rfl
                       rotate_left
                       · simp only [Act.put, qa_, qz_, qs_, i64_w, i32_w]
                         rfl
                       refine pure_ (i := 2) (N := some 74) (v := ?_) (a' := ?_) #[true, true, true, false, false, false, false, false, false, false, false, false, false, false, false, false] rfl rfl (any_of HT_.out (by kernel_rfl)) (fun _ _ _ h => h) (Or.inl ⟨by rfl, ?_⟩) ?_ ?_
                       rotate_left
                       · intro w'
                         go_simp
                         with_reducible rfl
                       rotate_left
                       · simp only [Act.put, qa_, qz_, qs_, i64_w, i32_w]
                         rfl
                       refine take_ (i := 3) (N := some 75) (v := ?_) (a' := ?_) #[true, true, true, true, false, false, false, false, false, false, false, false, false, false, false, false] rfl rfl (take_ofW HT_.out HW_.out (by kernel_rfl)) (fun _ _ _ h => h) (Or.inl ⟨by rfl, ?_⟩) hHeld ?_ ?_
                       rotate_left
                       · rintro w' ⟨s0, s1, s2, s3, s4, s5, s6, s7⟩
                         go_simp
                         with_reducible rfl
                       rotate_left
                       · simp only [Act.put, qa_, qz_, qs_, i64_w, i32_w]
                         rfl
                       refine take_ (i := 4) (N := some 76) (v := ?_) (a' := ?_) #[true, true, true, true, true, false, false, false, false, false, false, false, false, false, false, false] rfl rfl (take_ofW HT_.out HW_.out (by kernel_rfl)) (fun _ _ _ h => h) (Or.inl ⟨by rfl, ?_⟩) hHeld ?_ ?_
                       rotate_left
                       · rintro w' ⟨s0, s1, s2, s3, s4, s5, s6, s7⟩
                         go_simp
                         with_reducible rfl
                       rotate_left
                       · simp only [Act.put, qa_, qz_, qs_, i64_w, i32_w]
                         rfl
                       refine one_ (i := 5) (N := some 77) #[true, true, true, true, true, true, false, false, false, false, false, false, false, false, false, false] rfl rfl (one_of HT_.out (by kernel_rfl)) (by decide) (fun K hK => ?_)
                       refine goes_ Try.func42 (by kernel_rfl) rfl #[.agg #[.int .i64 ((rd_T26 t215 x17_2).f0), .int .i64 ((rd_T26 t215 x17_2).f1)], .agg #[.int .i64 a1_0, .int .i64 a1_1]] (by rfl) rfl rfl (by (try simp only [List.map_toArray, List.map_cons, List.map_nil]); first | done | rfl | (simp only [List.length_drop, List.length_take]; rfl)) ?_
                       with_reducible refine (partitaref01_Compare.calls k2 ((rd_T26 t215 x17_2).f0) ((rd_T26 t215 x17_2).f1) a1_0 a1_1 t234 _ A80.out).mono ?_
                       rintro e w87 ⟨rfl, hb⟩
                       have HS4_ := (hb.cell (World.block_lt_of_cell? _ _ (hHeld.2.2.2.2.1))).trans (hHeld.2.2.2.2.1)
                       have HS5_ := (hb.cell (World.block_lt_of_cell? _ _ (hHeld.2.2.2.2.2.1))).trans (hHeld.2.2.2.2.2.1)
                       have HS6_ := (hb.cell (World.block_lt_of_cell? _ _ (hHeld.2.2.2.2.2.2.1))).trans (hHeld.2.2.2.2.2.2.1)
                       have HS7_ := (hb.cell (World.block_lt_of_cell? _ _ (hHeld.2.2.2.2.2.2.2))).trans (hHeld.2.2.2.2.2.2.2)
                       refine ⟨_, rfl, ?_⟩
                       have n0_ := Aside0.mk (Kd.R_below (qR HO_8.out) hb)
                       have n1_ := Aside0.mk (Kd.R_below (qR HO_16.out) hb)
                       have n2_ := Aside0.mk (blk_below (qB BK212.out) hb)
                       have n3_ := Aside0.mk (blk_below (qB BK213.out) hb)
                       have n4_ := Aside0.mk (blk_below (qB BK214.out) hb)
                       have n5_ := Aside0.mk (blk_below (qB BK224.out) hb)
                       have n6_ := Aside0.mk (blk_below (qB BK228.out) hb)
                       have n7_ := Aside0.mk (below_step (by repeat (first | (with_reducible first | exact HB.out | apply below_alloc | apply pw_below_drewN | apply below_drew1 | refine below_set ?_ (Aside0.out (by assumption))) | exact HB.out)) hb)
                       clear HO_8
                       clear HO_16
                       clear BK212
                       clear BK213
                       clear BK214
                       clear BK224
                       clear BK228
                       clear HB
                       have HO_8 := n0_
                       have HO_16 := n1_
                       have BK212 := n2_
                       have BK213 := n3_
                       have BK214 := n4_
                       have BK224 := n5_
                       have BK228 := n6_
                       have HB := n7_
                       clear n0_ n1_ n2_ n3_ n4_ n5_ n6_ n7_
                       (try clear hb)
                       (try clear hb2)
                       (try clear hk)
                       (try clear hi)
                       refine hK.out _ _ ⟨(blk_cell BK213.out 0).trans rfl, (blk_cell BK213.out 1).trans rfl, (blk_cell BK224.out 0).trans rfl, (blk_cell BK224.out 1).trans rfl, HS4_, HS5_, HS6_, HS7_⟩ (fun hHeld => ?_)
                       clear hK K
                       refine norm_ (a' := ?_) ?_ ?_
                       rotate_left
                       · show Act.put _ (some 77) _ = _
                         simp only [Act.put, qa_, qz_, qs_, i64_w, i32_w]
                         rfl
                       refine pure_ (i := 6) (N := some 78) (v := ?_) (a' := ?_) #[true, true, true, true, true, true, true, false, false, false, false, false, false, false, false, false] rfl rfl (any_of HT_.out (by kernel_rfl)) (fun _ _ _ h => h) (Or.inl ⟨by rfl, ?_⟩) ?_ ?_
                       rotate_left
                       · intro w'
                         go_simp
                         with_reducible rfl
                       rotate_left
                       · simp only [Act.put, qa_, qz_, qs_, i64_w, i32_w]
                         rfl
                       refine pure_ (i := 7) (N := some 79) (v := ?_) (a' := ?_) #[true, true, true, true, true, true, true, true, false, false, false, false, false, false, false, false] rfl rfl (any_of HT_.out (by kernel_rfl)) (fun _ _ _ h => h) (Or.inl ⟨by rfl, ?_⟩) ?_ ?_
                       rotate_left
                       · intro w'
                         go_simp
                         with_reducible rfl
                       rotate_left
                       · simp only [Act.put, qa_, qz_, qs_, i64_w, i32_w]
                         rfl
                       refine pure_ (i := 8) (N := some 80) (v := ?_) (a' := ?_) #[true, true, true, true, true, true, true, true, true, false, false, false, false, false, false, false] rfl rfl (any_of HT_.out (by kernel_rfl)) (fun _ _ _ h => h) (Or.inl ⟨by rfl, ?_⟩) ?_ ?_
                       rotate_left
                       · intro w'
                         go_simp
                         with_reducible rfl
                       rotate_left
                       · simp only [Act.put, qa_, qz_, qs_, i64_w, i32_w]
                         rfl
                       refine pure_ (i := 9) (N := some 81) (v := ?_) (a' := ?_) #[true, true, true, true, true, true, true, true, true, true, false, false, false, false, false, false] rfl rfl (any_of HT_.out (by kernel_rfl)) (fun _ _ _ h => h) (Or.inl ⟨by rfl, ?_⟩) ?_ ?_
                       rotate_left
                       · intro w'
                         go_simp
                         with_reducible rfl
                       rotate_left
                       · simp only [Act.put, qa_, qz_, qs_, i64_w, i32_w]
                         rfl
                       refine pure_ (i := 10) (N := some 82) (v := ?_) (a' := ?_) #[true, true, true, true, true, true, true, true, true, true, true, false, false, false, false, false] rfl rfl (any_of HT_.out (by kernel_rfl)) (fun _ _ _ h => h) (Or.inl ⟨by rfl, ?_⟩) ?_ ?_
                       rotate_left
                       · intro w'
                         go_simp
                         with_reducible rfl
                       rotate_left
                       · simp only [Act.put, qa_, qz_, qs_, i64_w, i32_w]
                         rfl
                       refine take_ (i := 11) (N := some 83) (v := ?_) (a' := ?_) #[true, true, true, true, true, true, true, true, true, true, true, true, false, false, false, false] rfl rfl (take_ofW HT_.out HW_.out (by kernel_rfl)) (fun _ _ _ h => h) (Or.inl ⟨by rfl, ?_⟩) hHeld ?_ ?_
                       rotate_left
                       · rintro w' ⟨s0, s1, s2, s3, s4, s5, s6, s7⟩
                         go_simp
                         with_reducible rfl
                       rotate_left
                       · simp only [Act.put, qa_, qz_, qs_, i64_w, i32_w]
                         rfl
                       refine take_ (i := 12) (N := some 84) (v := ?_) (a' := ?_) #[true, true, true, true, true, true, true, true, true, true, true, true, true, false, false, false] rfl rfl (take_ofW HT_.out HW_.out (by kernel_rfl)) (fun _ _ _ h => h) (Or.inl ⟨by rfl, ?_⟩) hHeld ?_ ?_
                       rotate_left
                       · rintro w' ⟨s0, s1, s2, s3, s4, s5, s6, s7⟩
                         go_simp
                         with_reducible rfl
                       rotate_left
                       · simp only [Act.put, qa_, qz_, qs_, i64_w, i32_w]
                         rfl
                       refine one_ (i := 13) (N := some 85) #[true, true, true, true, true, true, true, true, true, true, true, true, true, true, false, false] rfl rfl (one_of HT_.out (by kernel_rfl)) (by decide) (fun K hK => ?_)
                       refine goes_ Try.func42 (by kernel_rfl) rfl #[.agg #[.int .i64 ((rd_T26 t215 x17_2).f0), .int .i64 ((rd_T26 t215 x17_2).f1)], .agg #[.int .i64 t221, .int .i64 t222]] (by rfl) rfl rfl (by (try simp only [List.map_toArray, List.map_cons, List.map_nil]); first | done | rfl | (simp only [List.length_drop, List.length_take]; rfl)) ?_
                       with_reducible refine (partitaref01_Compare.calls k2 ((rd_T26 t215 x17_2).f0) ((rd_T26 t215 x17_2).f1) t221 t222 t236 _ A82.out).mono ?_
                       rintro e w88 ⟨rfl, hb⟩
                       have HS4_ := (hb.cell (World.block_lt_of_cell? _ _ (hHeld.2.2.2.2.1))).trans (hHeld.2.2.2.2.1)
                       have HS5_ := (hb.cell (World.block_lt_of_cell? _ _ (hHeld.2.2.2.2.2.1))).trans (hHeld.2.2.2.2.2.1)
                       have HS6_ := (hb.cell (World.block_lt_of_cell? _ _ (hHeld.2.2.2.2.2.2.1))).trans (hHeld.2.2.2.2.2.2.1)
                       have HS7_ := (hb.cell (World.block_lt_of_cell? _ _ (hHeld.2.2.2.2.2.2.2))).trans (hHeld.2.2.2.2.2.2.2)
                       refine ⟨_, rfl, ?_⟩
                       have n0_ := Aside0.mk (Kd.R_below (qR HO_8.out) hb)
                       have n1_ := Aside0.mk (Kd.R_below (qR HO_16.out) hb)
                       have n2_ := Aside0.mk (blk_below (qB BK212.out) hb)
                       have n3_ := Aside0.mk (blk_below (qB BK213.out) hb)
                       have n4_ := Aside0.mk (blk_below (qB BK214.out) hb)
                       have n5_ := Aside0.mk (blk_below (qB BK224.out) hb)
                       have n6_ := Aside0.mk (blk_below (qB BK228.out) hb)
                       have n7_ := Aside0.mk (below_step (by repeat (first | (with_reducible first | exact HB.out | apply below_alloc | apply pw_below_drewN | apply below_drew1 | refine below_set ?_ (Aside0.out (by assumption))) | exact HB.out)) hb)
                       clear HO_8
                       clear HO_16
                       clear BK212
                       clear BK213
                       clear BK214
                       clear BK224
                       clear BK228
                       clear HB
                       have HO_8 := n0_
                       have HO_16 := n1_
                       have BK212 := n2_
                       have BK213 := n3_
                       have BK214 := n4_
                       have BK224 := n5_
                       have BK228 := n6_
                       have HB := n7_
                       clear n0_ n1_ n2_ n3_ n4_ n5_ n6_ n7_
                       (try clear hb)
                       (try clear hb2)
                       (try clear hk)
                       (try clear hi)
                       refine hK.out _ _ ⟨(blk_cell BK213.out 0).trans rfl, (blk_cell BK213.out 1).trans rfl, (blk_cell BK224.out 0).trans rfl, (blk_cell BK224.out 1).trans rfl, HS4_, HS5_, HS6_, HS7_⟩ (fun hHeld => ?_)
                       clear hK K
                       refine norm_ (a' := ?_) ?_ ?_
                       rotate_left
                       · show Act.put _ (some 85) _ = _
                         simp only [Act.put, qa_, qz_, qs_, i64_w, i32_w]
                         rfl
                       refine pure_ (i := 14) (N := some 86) (v := ?_) (a' := ?_) #[true, true, true, true, true, true, true, true, true, true, true, true, true, true, true, false] rfl rfl (any_of HT_.out (by kernel_rfl)) (fun _ _ _ h => h) (Or.inl ⟨by rfl, ?_⟩) ?_ ?_
                       rotate_left
                       · intro w'
                         go_simp
                         with_reducible rfl
                       rotate_left
                       · simp only [Act.put, qa_, qz_, qs_, i64_w, i32_w]
                         rfl
                       refine pure_ (i := 15) (N := some 87) (v := ?_) (a' := ?_) #[true, true, true, true, true, true, true, true, true, true, true, true, true, true, true, true] rfl rfl (any_of HT_.out (by kernel_rfl)) (fun _ _ _ h => h) (Or.inl ⟨by rfl, ?_⟩) ?_ ?_
                       rotate_left
                       · intro w'
                         go_simp
                         with_reducible rfl
                       rotate_left
                       · simp only [Act.put, qa_, qz_, qs_, i64_w, i32_w]
                         rfl
                       refine done_ (done_of HT_.out (by kernel_rfl)) ?_
                       have p237 : 0 ≤ (x17_2 : Int) := of_decide_eq_true (by first | (with_reducible assumption) | assumption)
                       have q237 : x17_2 < (t215.length : Int) := of_decide_eq_true (by first | (with_reducible assumption) | assumption)
                       obtain ⟨ad237, e237, hx237_0, hx237_1⟩ := at_T26 (Kd.R_reads' HO_8.out).2.2 x17_2 p237 q237
                       obtain rfl : ad233 = ad237 := (by injection e237)
                       replace p237 := eq_true p237
                       replace q237 := eq_true q237
                       try go_wp2_with (first | ((with_reducible refine gate_builtin (b := .append) (xs := #[.tmp 88, .tmp 93]) rfl ?_); at_builtin; refine Kd.R_append k26 (w0 := w) w.heap.size rfl (.tmp 88) (.tmp 93) 33 26 (.agg #[(.int .i64 0), (.int .i64 0)]) 16 rfl Try.underlying33 info26 rfl (by decide) (by omega) u16 x16_2 (⟨(rd_T26 t215 x17_2).f0, (rd_T26 t215 x17_2).f1⟩ : S26) [.int .i64 ((rd_T26 t215 x17_2).f0), .int .i64 ((rd_T26 t215 x17_2).f1)] (fun k_ => some k_ ≠ (.slice (some ad233) t215.length co85 : Value).ownBlock ∧ k_ ≠ gb213 ∧ k_ ≠ gb214 ∧ k_ ≠ gb224 ∧ k_ ≠ gb228) (fun _ => False) rfl rfl ?aP (fun _ hk => hk.elim) ?aF ?aO ?aB ?aS ?aL ?_; (case aP => exact k26_mkM _ _ _ (⟨(rd_T26 t215 x17_2).f0, (rd_T26 t215 x17_2).f1⟩ : S26)); (case aB => exact (by repeat (first | (with_reducible first | exact HB.out | apply below_alloc | apply pw_below_drewN | apply below_drew1 | refine below_set ?_ (Aside0.out (by assumption))) | exact HB.out))); (case aF => exact (fun k_ hk => ⟨Kd.fresh' (Kd.R_lt (qR HO_8.out)) k_ hk, Kd.freshB (qB BK213.out) k_ hk, Kd.freshB (qB BK214.out) k_ hk, Kd.freshB (qB BK224.out) k_ hk, Kd.freshB (qB BK228.out) k_ hk⟩)); (case aO => exact (qR HO_16.out)); (case aS => exact (below_size (by repeat (first | (with_reducible first | exact HB.out | apply below_alloc | apply pw_below_drewN | apply below_drew1 | refine below_set ?_ (Aside0.out (by assumption))) | exact HB.out)))); (case aL => have := LMc84.out; omega); intro v239 w89 ho hb hg hat; rw [← Ny238.out] at ho; have n0_ := Aside0.mk (Kd.R_after (ok := (fun k_ => k_ ≠ gb213 ∧ k_ ≠ gb214 ∧ k_ ≠ gb224 ∧ k_ ≠ gb228)) (qR (Kd.R_mono HO_8.out (fun _ hk => ⟨⟨hk.2.1, ⟨hk.2.2.1, ⟨hk.2.2.2.1, hk.2.2.2.2⟩⟩⟩, hk.1⟩))) hg hat); have n1_ := Aside0.mk (blk_grown (qB BK212.out) hg (Kd.R_ne HO_16.out BK212.out (by decide))); have n2_ := Aside0.mk (blk_grown (qB BK213.out) hg (Kd.R_away HO_16.out (fun _ hk => hk.2.1))); have n3_ := Aside0.mk (blk_grown (qB BK214.out) hg (Kd.R_away HO_16.out (fun _ hk => hk.2.2.1))); have n4_ := Aside0.mk (blk_grown (qB BK224.out) hg (Kd.R_away HO_16.out (fun _ hk => hk.2.2.2.1))); have n5_ := Aside0.mk (blk_grown (qB BK228.out) hg (Kd.R_away HO_16.out (fun _ hk => hk.2.2.2.2))); have n6_ := Aside0.mk (hb); have n7_ := Aside0.mk (ho); clear HO_8; clear BK212; clear BK213; clear BK214; clear BK224; clear BK228; clear HB; clear HO_16; have HO_8 := n0_; have BK212 := n1_; have BK213 := n2_; have BK214 := n3_; have BK224 := n4_; have BK228 := n5_; have HB := n6_; have HO240 := n7_; clear n0_ n1_ n2_ n3_ n4_ n5_ n6_ n7_; clear ho hb hg hat))
                       go_roundg k2
                       case measure => have := HJ7.out; have := HK2.out; omega
                       case rel => exact ⟨(y238), (wrap64 (x17_2 + 1)), (by first | rfl | (simp; done) | (simp [*]; done)), H', ⟨by have := HJ7.out; have := HK2.out; omega⟩, ⟨by (with_reducible repeat (first | apply Kd.R_alloc | apply Kd.R_drewN | apply Kd.R_drew)); exact Kd.R_mono HO_8.out (fun _ hk => ⟨hk.2, ⟨hk.1.1, ⟨hk.1.2.1, ⟨hk.1.2.2.1, hk.1.2.2.2⟩⟩⟩⟩)⟩, ⟨by (with_reducible repeat (first | apply Kd.R_alloc | apply Kd.R_drewN | apply Kd.R_drew)); exact HO240.out⟩, ⟨by (with_reducible repeat (first | refine blk_drewN ?_ _ | refine blk_drew ?_ | refine blk_alloc ?_ _)); exact BK212.out⟩, ⟨by (with_reducible repeat (first | refine blk_drewN ?_ _ | refine blk_drew ?_ | refine blk_alloc ?_ _)); exact BK213.out⟩, ⟨by (with_reducible repeat (first | refine blk_drewN ?_ _ | refine blk_drew ?_ | refine blk_alloc ?_ _)); exact BK214.out⟩, ⟨by (with_reducible repeat (first | refine blk_drewN ?_ _ | refine blk_drew ?_ | refine blk_alloc ?_ _)); exact BK224.out⟩, ⟨by (with_reducible repeat (first | refine blk_drewN ?_ _ | refine blk_drew ?_ | refine blk_alloc ?_ _)); exact BK228.out⟩, ⟨by repeat (first | (with_reducible first | exact HB.out | apply below_alloc | apply pw_below_drewN | apply below_drew1 | refine below_set ?_ (Aside0.out (by assumption))) | exact HB.out)⟩⟩
                     · rw [if_neg c84] at H
                       exact absurd H (by simp)
                   · rw [if_neg c83] at H
                     have c83b0 : decide (t236 < 0) = false := decide_eq_false c83
                     clear c83
                     have H' := Aside0.mk H
                     clear H
                     obtain ⟨Ao90, co90, eo90⟩ := Kd.R_slice HO_8.out
                     subst eo90
                     try go_wp2
                     have n0_ := Aside0.mk (Kd.R_drew HO_8.out)
                     have n1_ := Aside0.mk (Kd.R_drew HO_16.out)
                     have n2_ := Aside0.mk (blk_drew BK212.out)
                     have n3_ := Aside0.mk (blk_drew BK213.out)
                     have n4_ := Aside0.mk (blk_drew BK214.out)
                     have n5_ := Aside0.mk (blk_drew BK224.out)
                     have n6_ := Aside0.mk (blk_drew BK228.out)
                     have n7_ := Aside0.mk (below_drew1 HB.out)
                     clear HO_8
                     clear HO_16
                     clear BK212
                     clear BK213
                     clear BK214
                     clear BK224
                     clear BK228
                     clear HB
                     have HO_8 := n0_
                     have HO_16 := n1_
                     have BK212 := n2_
                     have BK213 := n3_
                     have BK214 := n4_
                     have BK224 := n5_
                     have BK228 := n6_
                     have HB := n7_
                     clear n0_ n1_ n2_ n3_ n4_ n5_ n6_ n7_
                     have p233 : 0 ≤ (x17_2 : Int) := of_decide_eq_true (by first | (with_reducible assumption) | assumption)
                     have q233 : x17_2 < (t215.length : Int) := of_decide_eq_true (by first | (with_reducible assumption) | assumption)
                     obtain ⟨ad233, e233, hx233_0, hx233_1⟩ := at_T26 (Kd.R_reads' HO_8.out).2.2 x17_2 p233 q233
                     cases e233
                     replace p233 := eq_true p233
                     replace q233 := eq_true q233
                     have p235 : 0 ≤ (x17_2 : Int) := of_decide_eq_true (by first | (with_reducible assumption) | assumption)
                     have q235 : x17_2 < (t215.length : Int) := of_decide_eq_true (by first | (with_reducible assumption) | assumption)
                     obtain ⟨ad235, e235, hx235_0, hx235_1⟩ := at_T26 (Kd.R_reads' HO_8.out).2.2 x17_2 p235 q235
                     obtain rfl : ad233 = ad235 := (by injection e235)
                     replace p235 := eq_true p235
                     replace q235 := eq_true q235
                     refine start_ (n := 16) (S := fun w' => w'.cell? ⟨gb213, 0, none⟩ = some (.int .i64 a1_0) ∧ w'.cell? ⟨gb213, 1, none⟩ = some (.int .i64 a1_1) ∧ w'.cell? ⟨gb224, 0, none⟩ = some (.int .i64 t221) ∧ w'.cell? ⟨gb224, 1, none⟩ = some (.int .i64 t222) ∧ w'.cell? (ad233.add ((x17_2).toNat * 2)) = some (.int .i64 ((rd_T26 t215 x17_2).f0)) ∧ w'.cell? ⟨(ad233.add ((x17_2).toNat * 2)).block, (ad233.add ((x17_2).toNat * 2)).off + 1, none⟩ = some (.int .i64 ((rd_T26 t215 x17_2).f1)) ∧ w'.cell? (ad233.add ((x17_2).toNat * 2)) = some (.int .i64 ((rd_T26 t215 x17_2).f0)) ∧ w'.cell? ⟨(ad233.add ((x17_2).toNat * 2)).block, (ad233.add ((x17_2).toNat * 2)).off + 1, none⟩ = some (.int .i64 ((rd_T26 t215 x17_2).f1))) (ds := []) #[false, false, false, false, false, false, false, false, false, false, false, false, false, false, false, false] (by kernel_rfl) rfl rfl ⟨(blk_cell BK213.out 0).trans rfl, (blk_cell BK213.out 1).trans rfl, (blk_cell BK224.out 0).trans rfl, (blk_cell BK224.out 1).trans rfl, hx233_0, hx233_1, hx235_0, hx235_1⟩ (fun hHeld => ?_); refine with_tabW partitaref05_Cut.tab18 partitaref05_Cut.bits18 (fun HT_ HW_ => ?_)
                     generalize wr.drew = w91 at HO_8 HO_16 BK212 BK213 BK214 BK224 BK228 HB hx233_0 hx233_1 hx235_0 hx235_1 hHeld ⊢
                     refine pure_ (i := 0) (N := some 72) (v := ?_) (a' := ?_) #[true, false, false, false, false, false, false, false, false, false, false, false, false, false, false, false] rfl rfl (any_of HT_.out (by kernel_rfl)) (fun _ _ _ h => h) (Or.inl ⟨by rfl, ?_⟩) ?_ ?_
                     rotate_left
                     · intro w'
                       go_simp
                       with_reducible rfl
                     rotate_left
                     · simp only [Act.put, qa_, qz_, qs_, i64_w, i32_w]
                       rfl
                     refine pure_ (i := 1) (N := some 73) (v := ?_) (a' := ?_) #[true, true, false, false, false, false, false, false, false, false, false, false, false, false, false, false] rfl rfl (any_of HT_.out (by kernel_rfl)) (fun _ _ _ h => h) (Or.inl ⟨by rfl, ?_⟩) ?_ ?_
                     rotate_left
                     · intro w'
                       go_simp
                       with_reducible rfl
                     rotate_left
                     · simp only [Act.put, qa_, qz_, qs_, i64_w, i32_w]
                       rfl
                     refine pure_ (i := 2) (N := some 74) (v := ?_) (a' := ?_) #[true, true, true, false, false, false, false, false, false, false, false, false, false, false, false, false] rfl rfl (any_of HT_.out (by kernel_rfl)) (fun _ _ _ h => h) (Or.inl ⟨by rfl, ?_⟩) ?_ ?_
                     rotate_left
                     · intro w'
                       go_simp
                       with_reducible rfl
                     rotate_left
                     · simp only [Act.put, qa_, qz_, qs_, i64_w, i32_w]
                       rfl
                     refine take_ (i := 3) (N := some 75) (v := ?_) (a' := ?_) #[true, true, true, true, false, false, false, false, false, false, false, false, false, false, false, false] rfl rfl (take_ofW HT_.out HW_.out (by kernel_rfl)) (fun _ _ _ h => h) (Or.inl ⟨by rfl, ?_⟩) hHeld ?_ ?_
                     rotate_left
                     · rintro w' ⟨s0, s1, s2, s3, s4, s5, s6, s7⟩
                       go_simp
                       with_reducible rfl
                     rotate_left
                     · simp only [Act.put, qa_, qz_, qs_, i64_w, i32_w]
                       rfl
                     refine take_ (i := 4) (N := some 76) (v := ?_) (a' := ?_) #[true, true, true, true, true, false, false, false, false, false, false, false, false, false, false, false] rfl rfl (take_ofW HT_.out HW_.out (by kernel_rfl)) (fun _ _ _ h => h) (Or.inl ⟨by rfl, ?_⟩) hHeld ?_ ?_
                     rotate_left
                     · rintro w' ⟨s0, s1, s2, s3, s4, s5, s6, s7⟩
                       go_simp
                       with_reducible rfl
                     rotate_left
                     · simp only [Act.put, qa_, qz_, qs_, i64_w, i32_w]
                       rfl
                     refine one_ (i := 5) (N := some 77) #[true, true, true, true, true, true, false, false, false, false, false, false, false, false, false, false] rfl rfl (one_of HT_.out (by kernel_rfl)) (by decide) (fun K hK => ?_)
                     refine goes_ Try.func42 (by kernel_rfl) rfl #[.agg #[.int .i64 ((rd_T26 t215 x17_2).f0), .int .i64 ((rd_T26 t215 x17_2).f1)], .agg #[.int .i64 a1_0, .int .i64 a1_1]] (by rfl) rfl rfl (by (try simp only [List.map_toArray, List.map_cons, List.map_nil]); first | done | rfl | (simp only [List.length_drop, List.length_take]; rfl)) ?_
                     with_reducible refine (partitaref01_Compare.calls k2 ((rd_T26 t215 x17_2).f0) ((rd_T26 t215 x17_2).f1) a1_0 a1_1 t234 _ A80.out).mono ?_
                     rintro e w92 ⟨rfl, hb⟩
                     have HS4_ := (hb.cell (World.block_lt_of_cell? _ _ (hHeld.2.2.2.2.1))).trans (hHeld.2.2.2.2.1)
                     have HS5_ := (hb.cell (World.block_lt_of_cell? _ _ (hHeld.2.2.2.2.2.1))).trans (hHeld.2.2.2.2.2.1)
                     have HS6_ := (hb.cell (World.block_lt_of_cell? _ _ (hHeld.2.2.2.2.2.2.1))).trans (hHeld.2.2.2.2.2.2.1)
                     have HS7_ := (hb.cell (World.block_lt_of_cell? _ _ (hHeld.2.2.2.2.2.2.2))).trans (hHeld.2.2.2.2.2.2.2)
                     refine ⟨_, rfl, ?_⟩
                     have n0_ := Aside0.mk (Kd.R_below (qR HO_8.out) hb)
                     have n1_ := Aside0.mk (Kd.R_below (qR HO_16.out) hb)
                     have n2_ := Aside0.mk (blk_below (qB BK212.out) hb)
                     have n3_ := Aside0.mk (blk_below (qB BK213.out) hb)
                     have n4_ := Aside0.mk (blk_below (qB BK214.out) hb)
                     have n5_ := Aside0.mk (blk_below (qB BK224.out) hb)
                     have n6_ := Aside0.mk (blk_below (qB BK228.out) hb)
                     have n7_ := Aside0.mk (below_step (by repeat (first | (with_reducible first | exact HB.out | apply below_alloc | apply pw_below_drewN | apply below_drew1 | refine below_set ?_ (Aside0.out (by assumption))) | exact HB.out)) hb)
                     clear HO_8
                     clear HO_16
                     clear BK212
                     clear BK213
                     clear BK214
                     clear BK224
                     clear BK228
                     clear HB
                     have HO_8 := n0_
                     have HO_16 := n1_
                     have BK212 := n2_
                     have BK213 := n3_
                     have BK214 := n4_
                     have BK224 := n5_
                     have BK228 := n6_
                     have HB := n7_
                     clear n0_ n1_ n2_ n3_ n4_ n5_ n6_ n7_
                     (try clear hb)
                     (try clear hb2)
                     (try clear hk)
                     (try clear hi)
                     refine hK.out _ _ ⟨(blk_cell BK213.out 0).trans rfl, (blk_cell BK213.out 1).trans rfl, (blk_cell BK224.out 0).trans rfl, (blk_cell BK224.out 1).trans rfl, HS4_, HS5_, HS6_, HS7_⟩ (fun hHeld => ?_)
                     clear hK K
                     refine norm_ (a' := ?_) ?_ ?_
                     rotate_left
                     · show Act.put _ (some 77) _ = _
                       simp only [Act.put, qa_, qz_, qs_, i64_w, i32_w]
                       rfl
                     refine pure_ (i := 6) (N := some 78) (v := ?_) (a' := ?_) #[true, true, true, true, true, true, true, false, false, false, false, false, false, false, false, false] rfl rfl (any_of HT_.out (by kernel_rfl)) (fun _ _ _ h => h) (Or.inl ⟨by rfl, ?_⟩) ?_ ?_
                     rotate_left
                     · intro w'
                       go_simp
                       with_reducible rfl
                     rotate_left
                     · simp only [Act.put, qa_, qz_, qs_, i64_w, i32_w]
                       rfl
                     refine pure_ (i := 7) (N := some 79) (v := ?_) (a' := ?_) #[true, true, true, true, true, true, true, true, false, false, false, false, false, false, false, false] rfl rfl (any_of HT_.out (by kernel_rfl)) (fun _ _ _ h => h) (Or.inl ⟨by rfl, ?_⟩) ?_ ?_
                     rotate_left
                     · intro w'
                       go_simp
                       with_reducible rfl
                     rotate_left
                     · simp only [Act.put, qa_, qz_, qs_, i64_w, i32_w]
                       rfl
                     refine pure_ (i := 8) (N := some 80) (v := ?_) (a' := ?_) #[true, true, true, true, true, true, true, true, true, false, false, false, false, false, false, false] rfl rfl (any_of HT_.out (by kernel_rfl)) (fun _ _ _ h => h) (Or.inl ⟨by rfl, ?_⟩) ?_ ?_
                     rotate_left
                     · intro w'
                       go_simp
                       with_reducible rfl
                     rotate_left
                     · simp only [Act.put, qa_, qz_, qs_, i64_w, i32_w]
                       rfl
                     refine pure_ (i := 9) (N := some 81) (v := ?_) (a' := ?_) #[true, true, true, true, true, true, true, true, true, true, false, false, false, false, false, false] rfl rfl (any_of HT_.out (by kernel_rfl)) (fun _ _ _ h => h) (Or.inl ⟨by rfl, ?_⟩) ?_ ?_
                     rotate_left
                     · intro w'
                       go_simp
                       with_reducible rfl
                     rotate_left
                     · simp only [Act.put, qa_, qz_, qs_, i64_w, i32_w]
                       rfl
                     refine pure_ (i := 10) (N := some 82) (v := ?_) (a' := ?_) #[true, true, true, true, true, true, true, true, true, true, true, false, false, false, false, false] rfl rfl (any_of HT_.out (by kernel_rfl)) (fun _ _ _ h => h) (Or.inl ⟨by rfl, ?_⟩) ?_ ?_
                     rotate_left
                     · intro w'
                       go_simp
                       with_reducible rfl
                     rotate_left
                     · simp only [Act.put, qa_, qz_, qs_, i64_w, i32_w]
                       rfl
                     refine take_ (i := 11) (N := some 83) (v := ?_) (a' := ?_) #[true, true, true, true, true, true, true, true, true, true, true, true, false, false, false, false] rfl rfl (take_ofW HT_.out HW_.out (by kernel_rfl)) (fun _ _ _ h => h) (Or.inl ⟨by rfl, ?_⟩) hHeld ?_ ?_
                     rotate_left
                     · rintro w' ⟨s0, s1, s2, s3, s4, s5, s6, s7⟩
                       go_simp
                       with_reducible rfl
                     rotate_left
                     · simp only [Act.put, qa_, qz_, qs_, i64_w, i32_w]
                       rfl
                     refine take_ (i := 12) (N := some 84) (v := ?_) (a' := ?_) #[true, true, true, true, true, true, true, true, true, true, true, true, true, false, false, false] rfl rfl (take_ofW HT_.out HW_.out (by kernel_rfl)) (fun _ _ _ h => h) (Or.inl ⟨by rfl, ?_⟩) hHeld ?_ ?_
                     rotate_left
                     · rintro w' ⟨s0, s1, s2, s3, s4, s5, s6, s7⟩
                       go_simp
                       with_reducible rfl
                     rotate_left
                     · simp only [Act.put, qa_, qz_, qs_, i64_w, i32_w]
                       rfl
                     refine one_ (i := 13) (N := some 85) #[true, true, true, true, true, true, true, true, true, true, true, true, true, true, false, false] rfl rfl (one_of HT_.out (by kernel_rfl)) (by decide) (fun K hK => ?_)
                     refine goes_ Try.func42 (by kernel_rfl) rfl #[.agg #[.int .i64 ((rd_T26 t215 x17_2).f0), .int .i64 ((rd_T26 t215 x17_2).f1)], .agg #[.int .i64 t221, .int .i64 t222]] (by rfl) rfl rfl (by (try simp only [List.map_toArray, List.map_cons, List.map_nil]); first | done | rfl | (simp only [List.length_drop, List.length_take]; rfl)) ?_
                     with_reducible refine (partitaref01_Compare.calls k2 ((rd_T26 t215 x17_2).f0) ((rd_T26 t215 x17_2).f1) t221 t222 t236 _ A82.out).mono ?_
                     rintro e w93 ⟨rfl, hb⟩
                     have HS4_ := (hb.cell (World.block_lt_of_cell? _ _ (hHeld.2.2.2.2.1))).trans (hHeld.2.2.2.2.1)
                     have HS5_ := (hb.cell (World.block_lt_of_cell? _ _ (hHeld.2.2.2.2.2.1))).trans (hHeld.2.2.2.2.2.1)
                     have HS6_ := (hb.cell (World.block_lt_of_cell? _ _ (hHeld.2.2.2.2.2.2.1))).trans (hHeld.2.2.2.2.2.2.1)
                     have HS7_ := (hb.cell (World.block_lt_of_cell? _ _ (hHeld.2.2.2.2.2.2.2))).trans (hHeld.2.2.2.2.2.2.2)
                     refine ⟨_, rfl, ?_⟩
                     have n0_ := Aside0.mk (Kd.R_below (qR HO_8.out) hb)
                     have n1_ := Aside0.mk (Kd.R_below (qR HO_16.out) hb)
                     have n2_ := Aside0.mk (blk_below (qB BK212.out) hb)
                     have n3_ := Aside0.mk (blk_below (qB BK213.out) hb)
                     have n4_ := Aside0.mk (blk_below (qB BK214.out) hb)
                     have n5_ := Aside0.mk (blk_below (qB BK224.out) hb)
                     have n6_ := Aside0.mk (blk_below (qB BK228.out) hb)
                     have n7_ := Aside0.mk (below_step (by repeat (first | (with_reducible first | exact HB.out | apply below_alloc | apply pw_below_drewN | apply below_drew1 | refine below_set ?_ (Aside0.out (by assumption))) | exact HB.out)) hb)
                     clear HO_8
                     clear HO_16
                     clear BK212
                     clear BK213
                     clear BK214
                     clear BK224
                     clear BK228
                     clear HB
                     have HO_8 := n0_
                     have HO_16 := n1_
                     have BK212 := n2_
                     have BK213 := n3_
                     have BK214 := n4_
                     have BK224 := n5_
                     have BK228 := n6_
                     have HB := n7_
                     clear n0_ n1_ n2_ n3_ n4_ n5_ n6_ n7_
                     (try clear hb)
                     (try clear hb2)
                     (try clear hk)
                     (try clear hi)
                     refine hK.out _ _ ⟨(blk_cell BK213.out 0).trans rfl, (blk_cell BK213.out 1).trans rfl, (blk_cell BK224.out 0).trans rfl, (blk_cell BK224.out 1).trans rfl, HS4_, HS5_, HS6_, HS7_⟩ (fun hHeld => ?_)
                     clear hK K
                     refine norm_ (a' := ?_) ?_ ?_
                     rotate_left
                     · show Act.put _ (some 85) _ = _
                       simp only [Act.put, qa_, qz_, qs_, i64_w, i32_w]
                       rfl
                     refine pure_ (i := 14) (N := some 86) (v := ?_) (a' := ?_) #[true, true, true, true, true, true, true, true, true, true, true, true, true, true, true, false] rfl rfl (any_of HT_.out (by kernel_rfl)) (fun _ _ _ h => h) (Or.inl ⟨by rfl, ?_⟩) ?_ ?_
                     rotate_left
                     · intro w'
                       go_simp
                       with_reducible rfl
                     rotate_left
                     · simp only [Act.put, qa_, qz_, qs_, i64_w, i32_w]
                       rfl
                     refine pure_ (i := 15) (N := some 87) (v := ?_) (a' := ?_) #[true, true, true, true, true, true, true, true, true, true, true, true, true, true, true, true] rfl rfl (any_of HT_.out (by kernel_rfl)) (fun _ _ _ h => h) (Or.inl ⟨by rfl, ?_⟩) ?_ ?_
                     rotate_left
                     · intro w'
                       go_simp
                       with_reducible rfl
                     rotate_left
                     · simp only [Act.put, qa_, qz_, qs_, i64_w, i32_w]
                       rfl
                     refine done_ (done_of HT_.out (by kernel_rfl)) ?_
                     try go_wp2
                     go_roundg k2
                     case measure => have := HJ7.out; have := HK2.out; omega
                     case rel => exact ⟨(x16_2), (wrap64 (x17_2 + 1)), (by first | rfl | (simp; done) | (simp [*]; done)), H', ⟨by have := HJ7.out; have := HK2.out; omega⟩, ⟨by (with_reducible repeat (first | apply Kd.R_alloc | apply Kd.R_drewN | apply Kd.R_drew)); exact HO_8.out⟩, ⟨by (with_reducible repeat (first | apply Kd.R_alloc | apply Kd.R_drewN | apply Kd.R_drew)); exact HO_16.out⟩, ⟨by (with_reducible repeat (first | refine blk_drewN ?_ _ | refine blk_drew ?_ | refine blk_alloc ?_ _)); exact BK212.out⟩, ⟨by (with_reducible repeat (first | refine blk_drewN ?_ _ | refine blk_drew ?_ | refine blk_alloc ?_ _)); exact BK213.out⟩, ⟨by (with_reducible repeat (first | refine blk_drewN ?_ _ | refine blk_drew ?_ | refine blk_alloc ?_ _)); exact BK214.out⟩, ⟨by (with_reducible repeat (first | refine blk_drewN ?_ _ | refine blk_drew ?_ | refine blk_alloc ?_ _)); exact BK224.out⟩, ⟨by (with_reducible repeat (first | refine blk_drewN ?_ _ | refine blk_drew ?_ | refine blk_alloc ?_ _)); exact BK228.out⟩, ⟨by repeat (first | (with_reducible first | exact HB.out | apply below_alloc | apply pw_below_drewN | apply below_drew1 | refine below_set ?_ (Aside0.out (by assumption))) | exact HB.out)⟩⟩
                 · rw [if_neg c81] at H
                   have c81b0 : decide (0 < t234) = false := decide_eq_false c81
                   clear c81
                   have H' := Aside0.mk H
                   clear H
                   obtain ⟨Ao94, co94, eo94⟩ := Kd.R_slice HO_8.out
                   subst eo94
                   try go_wp2
                   have n0_ := Aside0.mk (Kd.R_drew HO_8.out)
                   have n1_ := Aside0.mk (Kd.R_drew HO_16.out)
                   have n2_ := Aside0.mk (blk_drew BK212.out)
                   have n3_ := Aside0.mk (blk_drew BK213.out)
                   have n4_ := Aside0.mk (blk_drew BK214.out)
                   have n5_ := Aside0.mk (blk_drew BK224.out)
                   have n6_ := Aside0.mk (blk_drew BK228.out)
                   have n7_ := Aside0.mk (below_drew1 HB.out)
                   clear HO_8
                   clear HO_16
                   clear BK212
                   clear BK213
                   clear BK214
                   clear BK224
                   clear BK228
                   clear HB
                   have HO_8 := n0_
                   have HO_16 := n1_
                   have BK212 := n2_
                   have BK213 := n3_
                   have BK214 := n4_
                   have BK224 := n5_
                   have BK228 := n6_
                   have HB := n7_
                   clear n0_ n1_ n2_ n3_ n4_ n5_ n6_ n7_
                   have p233 : 0 ≤ (x17_2 : Int) := of_decide_eq_true (by first | (with_reducible assumption) | assumption)
                   have q233 : x17_2 < (t215.length : Int) := of_decide_eq_true (by first | (with_reducible assumption) | assumption)
                   obtain ⟨ad233, e233, hx233_0, hx233_1⟩ := at_T26 (Kd.R_reads' HO_8.out).2.2 x17_2 p233 q233
                   cases e233
                   replace p233 := eq_true p233
                   replace q233 := eq_true q233
                   refine start_ (n := 16) (S := fun w' => w'.cell? ⟨gb213, 0, none⟩ = some (.int .i64 a1_0) ∧ w'.cell? ⟨gb213, 1, none⟩ = some (.int .i64 a1_1) ∧ w'.cell? (ad233.add ((x17_2).toNat * 2)) = some (.int .i64 ((rd_T26 t215 x17_2).f0)) ∧ w'.cell? ⟨(ad233.add ((x17_2).toNat * 2)).block, (ad233.add ((x17_2).toNat * 2)).off + 1, none⟩ = some (.int .i64 ((rd_T26 t215 x17_2).f1))) (ds := []) #[false, false, false, false, false, false, false, false, false, false, false, false, false, false, false, false] (by kernel_rfl) rfl rfl ⟨(blk_cell BK213.out 0).trans rfl, (blk_cell BK213.out 1).trans rfl, hx233_0, hx233_1⟩ (fun hHeld => ?_); refine with_tabW partitaref05_Cut.tab18 partitaref05_Cut.bits18 (fun HT_ HW_ => ?_)
                   generalize wr.drew = w95 at HO_8 HO_16 BK212 BK213 BK214 BK224 BK228 HB hx233_0 hx233_1 hHeld ⊢
                   refine pure_ (i := 0) (N := some 72) (v := ?_) (a' := ?_) #[true, false, false, false, false, false, false, false, false, false, false, false, false, false, false, false] rfl rfl (any_of HT_.out (by kernel_rfl)) (fun _ _ _ h => h) (Or.inl ⟨by rfl, ?_⟩) ?_ ?_
                   rotate_left
                   · intro w'
                     go_simp
                     with_reducible rfl
                   rotate_left
                   · simp only [Act.put, qa_, qz_, qs_, i64_w, i32_w]
                     rfl
                   refine pure_ (i := 1) (N := some 73) (v := ?_) (a' := ?_) #[true, true, false, false, false, false, false, false, false, false, false, false, false, false, false, false] rfl rfl (any_of HT_.out (by kernel_rfl)) (fun _ _ _ h => h) (Or.inl ⟨by rfl, ?_⟩) ?_ ?_
                   rotate_left
                   · intro w'
                     go_simp
                     with_reducible rfl
                   rotate_left
                   · simp only [Act.put, qa_, qz_, qs_, i64_w, i32_w]
                     rfl
                   refine pure_ (i := 2) (N := some 74) (v := ?_) (a' := ?_) #[true, true, true, false, false, false, false, false, false, false, false, false, false, false, false, false] rfl rfl (any_of HT_.out (by kernel_rfl)) (fun _ _ _ h => h) (Or.inl ⟨by rfl, ?_⟩) ?_ ?_
                   rotate_left
                   · intro w'
                     go_simp
                     with_reducible rfl
                   rotate_left
                   · simp only [Act.put, qa_, qz_, qs_, i64_w, i32_w]
                     rfl
                   refine take_ (i := 3) (N := some 75) (v := ?_) (a' := ?_) #[true, true, true, true, false, false, false, false, false, false, false, false, false, false, false, false] rfl rfl (take_ofW HT_.out HW_.out (by kernel_rfl)) (fun _ _ _ h => h) (Or.inl ⟨by rfl, ?_⟩) hHeld ?_ ?_
                   rotate_left
                   · rintro w' ⟨s0, s1, s2, s3⟩
                     go_simp
                     with_reducible rfl
                   rotate_left
                   · simp only [Act.put, qa_, qz_, qs_, i64_w, i32_w]
                     rfl
                   refine take_ (i := 4) (N := some 76) (v := ?_) (a' := ?_) #[true, true, true, true, true, false, false, false, false, false, false, false, false, false, false, false] rfl rfl (take_ofW HT_.out HW_.out (by kernel_rfl)) (fun _ _ _ h => h) (Or.inl ⟨by rfl, ?_⟩) hHeld ?_ ?_
                   rotate_left
                   · rintro w' ⟨s0, s1, s2, s3⟩
                     go_simp
                     with_reducible rfl
                   rotate_left
                   · simp only [Act.put, qa_, qz_, qs_, i64_w, i32_w]
                     rfl
                   refine one_ (i := 5) (N := some 77) #[true, true, true, true, true, true, false, false, false, false, false, false, false, false, false, false] rfl rfl (one_of HT_.out (by kernel_rfl)) (by decide) (fun K hK => ?_)
                   refine goes_ Try.func42 (by kernel_rfl) rfl #[.agg #[.int .i64 ((rd_T26 t215 x17_2).f0), .int .i64 ((rd_T26 t215 x17_2).f1)], .agg #[.int .i64 a1_0, .int .i64 a1_1]] (by rfl) rfl rfl (by (try simp only [List.map_toArray, List.map_cons, List.map_nil]); first | done | rfl | (simp only [List.length_drop, List.length_take]; rfl)) ?_
                   with_reducible refine (partitaref01_Compare.calls k2 ((rd_T26 t215 x17_2).f0) ((rd_T26 t215 x17_2).f1) a1_0 a1_1 t234 _ A80.out).mono ?_
                   rintro e w96 ⟨rfl, hb⟩
                   have HS2_ := (hb.cell (World.block_lt_of_cell? _ _ (hHeld.2.2.1))).trans (hHeld.2.2.1)
                   have HS3_ := (hb.cell (World.block_lt_of_cell? _ _ (hHeld.2.2.2))).trans (hHeld.2.2.2)
                   refine ⟨_, rfl, ?_⟩
                   have n0_ := Aside0.mk (Kd.R_below (qR HO_8.out) hb)
                   have n1_ := Aside0.mk (Kd.R_below (qR HO_16.out) hb)
                   have n2_ := Aside0.mk (blk_below (qB BK212.out) hb)
                   have n3_ := Aside0.mk (blk_below (qB BK213.out) hb)
                   have n4_ := Aside0.mk (blk_below (qB BK214.out) hb)
                   have n5_ := Aside0.mk (blk_below (qB BK224.out) hb)
                   have n6_ := Aside0.mk (blk_below (qB BK228.out) hb)
                   have n7_ := Aside0.mk (below_step (by repeat (first | (with_reducible first | exact HB.out | apply below_alloc | apply pw_below_drewN | apply below_drew1 | refine below_set ?_ (Aside0.out (by assumption))) | exact HB.out)) hb)
                   clear HO_8
                   clear HO_16
                   clear BK212
                   clear BK213
                   clear BK214
                   clear BK224
                   clear BK228
                   clear HB
                   have HO_8 := n0_
                   have HO_16 := n1_
                   have BK212 := n2_
                   have BK213 := n3_
                   have BK214 := n4_
                   have BK224 := n5_
                   have BK228 := n6_
                   have HB := n7_
                   clear n0_ n1_ n2_ n3_ n4_ n5_ n6_ n7_
                   (try clear hb)
                   (try clear hb2)
                   (try clear hk)
                   (try clear hi)
                   refine hK.out _ _ ⟨(blk_cell BK213.out 0).trans rfl, (blk_cell BK213.out 1).trans rfl, HS2_, HS3_⟩ (fun hHeld => ?_)
                   clear hK K
                   refine norm_ (a' := ?_) ?_ ?_
                   rotate_left
                   · show Act.put _ (some 77) _ = _
                     simp only [Act.put, qa_, qz_, qs_, i64_w, i32_w]
                     rfl
                   refine pure_ (i := 6) (N := some 78) (v := ?_) (a' := ?_) #[true, true, true, true, true, true, true, false, false, false, false, false, false, false, false, false] rfl rfl (any_of HT_.out (by kernel_rfl)) (fun _ _ _ h => h) (Or.inl ⟨by rfl, ?_⟩) ?_ ?_
                   rotate_left
                   · intro w'
                     go_simp
                     with_reducible rfl
                   rotate_left
                   · simp only [Act.put, qa_, qz_, qs_, i64_w, i32_w]
                     rfl
                   refine pure_ (i := 7) (N := some 79) (v := ?_) (a' := ?_) #[true, true, true, true, true, true, true, true, false, false, false, false, false, false, false, false] rfl rfl (any_of HT_.out (by kernel_rfl)) (fun _ _ _ h => h) (Or.inl ⟨by rfl, ?_⟩) ?_ ?_
                   rotate_left
                   · intro w'
                     go_simp
                     with_reducible rfl
                   rotate_left
                   · simp only [Act.put, qa_, qz_, qs_, i64_w, i32_w]
                     rfl
                   refine pure_ (i := 8) (N := some 80) (v := undef) (a' := ?_) #[true, true, true, true, true, true, true, true, true, false, false, false, false, false, false, false] rfl rfl (any_of HT_.out (by kernel_rfl)) (fun _ _ _ h => h) (Or.inr ⟨by rfl, rfl⟩) ?_ ?_
                   rotate_left
                   · simp only [Act.put, qa_, qz_, qs_, i64_w, i32_w]
                     rfl
                   refine pure_ (i := 9) (N := some 81) (v := undef) (a' := ?_) #[true, true, true, true, true, true, true, true, true, true, false, false, false, false, false, false] rfl rfl (any_of HT_.out (by kernel_rfl)) (fun _ _ _ h => h) (Or.inr ⟨by rfl, rfl⟩) ?_ ?_
                   rotate_left
                   · simp only [Act.put, qa_, qz_, qs_, i64_w, i32_w]
                     rfl
                   refine pure_ (i := 10) (N := some 82) (v := undef) (a' := ?_) #[true, true, true, true, true, true, true, true, true, true, true, false, false, false, false, false] rfl rfl (any_of HT_.out (by kernel_rfl)) (fun _ _ _ h => h) (Or.inr ⟨by rfl, rfl⟩) ?_ ?_
                   rotate_left
                   · simp only [Act.put, qa_, qz_, qs_, i64_w, i32_w]
                     rfl
                   refine pure_ (i := 11) (N := some 83) (v := undef) (a' := ?_) #[true, true, true, true, true, true, true, true, true, true, true, true, false, false, false, false] rfl rfl (any_of HT_.out (by kernel_rfl)) (fun _ _ _ h => h) (Or.inr ⟨by rfl, rfl⟩) ?_ ?_
                   rotate_left
                   · simp only [Act.put, qa_, qz_, qs_, i64_w, i32_w]
                     rfl
                   refine pure_ (i := 12) (N := some 84) (v := undef) (a' := ?_) #[true, true, true, true, true, true, true, true, true, true, true, true, true, false, false, false] rfl rfl (any_of HT_.out (by kernel_rfl)) (fun _ _ _ h => h) (Or.inr ⟨by rfl, rfl⟩) ?_ ?_
                   rotate_left
                   · simp only [Act.put, qa_, qz_, qs_, i64_w, i32_w]
                     rfl
                   refine pure_ (i := 13) (N := some 85) (v := undef) (a' := ?_) #[true, true, true, true, true, true, true, true, true, true, true, true, true, true, false, false] rfl rfl (any_of HT_.out (by kernel_rfl)) (fun _ _ _ h => h) (Or.inr ⟨by rfl, rfl⟩) ?_ ?_
                   rotate_left
                   · simp only [Act.put, qa_, qz_, qs_, i64_w, i32_w]
                     rfl
                   refine pure_ (i := 14) (N := some 86) (v := undef) (a' := ?_) #[true, true, true, true, true, true, true, true, true, true, true, true, true, true, true, false] rfl rfl (any_of HT_.out (by kernel_rfl)) (fun _ _ _ h => h) (Or.inr ⟨by rfl, rfl⟩) ?_ ?_
                   rotate_left
                   · simp only [Act.put, qa_, qz_, qs_, i64_w, i32_w]
                     rfl
                   refine pure_ (i := 15) (N := some 87) (v := ?_) (a' := ?_) #[true, true, true, true, true, true, true, true, true, true, true, true, true, true, true, true] rfl rfl (any_of HT_.out (by kernel_rfl)) (fun _ _ _ h => h) (Or.inl ⟨by rfl, ?_⟩) ?_ ?_
                   rotate_left
                   · intro w'
                     go_simp
                     with_reducible rfl
                   rotate_left
                   · simp only [Act.put, qa_, qz_, qs_, i64_w, i32_w]
                     rfl
                   refine done_ (done_of HT_.out (by kernel_rfl)) ?_
                   try go_wp2
                   go_roundg k2
                   case measure => have := HJ7.out; have := HK2.out; omega
                   case rel => exact ⟨(x16_2), (wrap64 (x17_2 + 1)), (by first | rfl | (simp; done) | (simp [*]; done)), H', ⟨by have := HJ7.out; have := HK2.out; omega⟩, ⟨by (with_reducible repeat (first | apply Kd.R_alloc | apply Kd.R_drewN | apply Kd.R_drew)); exact HO_8.out⟩, ⟨by (with_reducible repeat (first | apply Kd.R_alloc | apply Kd.R_drewN | apply Kd.R_drew)); exact HO_16.out⟩, ⟨by (with_reducible repeat (first | refine blk_drewN ?_ _ | refine blk_drew ?_ | refine blk_alloc ?_ _)); exact BK212.out⟩, ⟨by (with_reducible repeat (first | refine blk_drewN ?_ _ | refine blk_drew ?_ | refine blk_alloc ?_ _)); exact BK213.out⟩, ⟨by (with_reducible repeat (first | refine blk_drewN ?_ _ | refine blk_drew ?_ | refine blk_alloc ?_ _)); exact BK214.out⟩, ⟨by (with_reducible repeat (first | refine blk_drewN ?_ _ | refine blk_drew ?_ | refine blk_alloc ?_ _)); exact BK224.out⟩, ⟨by (with_reducible repeat (first | refine blk_drewN ?_ _ | refine blk_drew ?_ | refine blk_alloc ?_ _)); exact BK228.out⟩, ⟨by repeat (first | (with_reducible first | exact HB.out | apply below_alloc | apply pw_below_drewN | apply below_drew1 | refine below_set ?_ (Aside0.out (by assumption))) | exact HB.out)⟩⟩
               · rw [if_neg c79] at H
                 exact absurd H (by simp)
             · rw [if_neg c78] at H
               have c78b0 : decide (x17_2 < (t215.length : Int)) = false := decide_eq_false c78
               clear c78
               by_cases c97 : x16_2.length < 8796093022208
               · rw [if_pos c97] at H
                 have LMc97 := Aside0.mk c97
                 clear c97
                 obtain ⟨y241, hy241⟩ : ∃ y_ : List (S26), y_ = (x16_2 ++ [(⟨t221, t222⟩ : S26)]) := ⟨_, rfl⟩
                 replace H : (partitaref05_Cut.l1 k2 y241 ([] : List (S26)) 1) = some (r1, r2) := by first | (rw [hy241]; with_reducible exact H) | (have H2_ := (Option.bind_some _ _).symm.trans H; rw [hy241]; with_reducible exact H2_) | (have H2_ := (Option.bind_some _ _).symm.trans H; with_reducible exact H2_) | with_reducible exact H | (rw [hy241]; exact H) | exact H
                 have Ny241 := Aside0.mk hy241
                 clear hy241
                 have H' := Aside0.mk H
                 clear H
                 obtain ⟨Ao98, co98, eo98⟩ := Kd.R_slice HO_8.out
                 subst eo98
                 have hnb99 := NB224_212.out
                 have hnc99 := NB212_224.out
                 have hnb100 := NB224_213.out
                 have hnc100 := NB213_224.out
                 have hnb101 := NB224_214.out
                 have hnc101 := NB214_224.out
                 have hnb102 := NB224_228.out
                 have hnc102 := NB228_224.out
                 have hcz103_0 : wr.cell? ⟨gb224, 0, none⟩ = some (.int .i64 t221) := (blk_cell BK224.out 0).trans rfl
                 have hcz103_1 : wr.cell? ⟨gb224, 1, none⟩ = some (.int .i64 t222) := (blk_cell BK224.out 1).trans rfl
                 have hfz103_0 := blk_frozen BK224.out 0
                 have hfz103_1 := blk_frozen BK224.out 1
                 go_wp2_with (first | ((with_reducible refine gate_builtin (b := .append) (xs := #[.tmp 95, .tmp 97]) rfl ?_); at_builtin; refine Kd.R_append k26 (w0 := w) w.heap.size rfl (.tmp 95) (.tmp 97) 33 26 (.agg #[(.int .i64 0), (.int .i64 0)]) 16 rfl Try.underlying33 info26 rfl (by decide) (by omega) u16 x16_2 (⟨t221, t222⟩ : S26) [.int .i64 t221, .int .i64 t222] (fun k_ => some k_ ≠ (.slice Ao98 t215.length co98 : Value).ownBlock ∧ k_ ≠ gb213 ∧ k_ ≠ gb214 ∧ k_ ≠ gb224 ∧ k_ ≠ gb228) (fun _ => False) rfl rfl ?aP (fun _ hk => hk.elim) ?aF ?aO ?aB ?aS ?aL ?_; (case aP => exact k26_mkM _ _ _ (⟨t221, t222⟩ : S26)); (case aB => exact (by repeat (first | (with_reducible first | exact HB.out | apply below_alloc | apply pw_below_drewN | apply below_drew1 | refine below_set ?_ (Aside0.out (by assumption))) | exact HB.out))); (case aF => exact (fun k_ hk => ⟨Kd.fresh' (Kd.R_lt (qR HO_8.out)) k_ hk, Kd.freshB (qB BK213.out) k_ hk, Kd.freshB (qB BK214.out) k_ hk, Kd.freshB (qB BK224.out) k_ hk, Kd.freshB (qB BK228.out) k_ hk⟩)); (case aO => exact (qR HO_16.out)); (case aS => exact (below_size (by repeat (first | (with_reducible first | exact HB.out | apply below_alloc | apply pw_below_drewN | apply below_drew1 | refine below_set ?_ (Aside0.out (by assumption))) | exact HB.out)))); (case aL => have := LMc97.out; omega); intro v242 w104 ho hb hg hat; rw [← Ny241.out] at ho; have n0_ := Aside0.mk (Kd.R_after (ok := (fun k_ => k_ ≠ gb213 ∧ k_ ≠ gb214 ∧ k_ ≠ gb224 ∧ k_ ≠ gb228)) (qR (Kd.R_mono HO_8.out (fun _ hk => ⟨⟨hk.2.1, ⟨hk.2.2.1, ⟨hk.2.2.2.1, hk.2.2.2.2⟩⟩⟩, hk.1⟩))) hg hat); have n1_ := Aside0.mk (blk_grown (qB BK212.out) hg (Kd.R_ne HO_16.out BK212.out (by decide))); have n2_ := Aside0.mk (blk_grown (qB BK213.out) hg (Kd.R_away HO_16.out (fun _ hk => hk.2.1))); have n3_ := Aside0.mk (blk_grown (qB BK214.out) hg (Kd.R_away HO_16.out (fun _ hk => hk.2.2.1))); have n4_ := Aside0.mk (blk_grown (qB BK224.out) hg (Kd.R_away HO_16.out (fun _ hk => hk.2.2.2.1))); have n5_ := Aside0.mk (blk_grown (qB BK228.out) hg (Kd.R_away HO_16.out (fun _ hk => hk.2.2.2.2))); have n6_ := Aside0.mk (hb); have n7_ := Aside0.mk (ho); clear HO_8; clear BK212; clear BK213; clear BK214; clear BK224; clear BK228; clear HB; clear HO_16; have HO_8 := n0_; have BK212 := n1_; have BK213 := n2_; have BK214 := n3_; have BK224 := n4_; have BK228 := n5_; have HB := n6_; have HO243 := n7_; clear n0_ n1_ n2_ n3_ n4_ n5_ n6_ n7_; clear ho hb hg hat))
                 go_loopg [18, 19] k2 (fun kq v18 v19 w' => ∃ (x18_3 : List (S26)) (x19_3 : Int), v19 = .int .i64 x19_3 ∧ Aside0 (partitaref05_Cut.l1 kq y241 x18_3 x19_3 = some (r1, r2)) ∧ Aside0 (kq ≤ k2) ∧ Aside0 (Kd.R k26 26 w' w.heap.size (fun k_ => some k_ ≠ (v18 : Value).ownBlock ∧ k_ ≠ gb213 ∧ k_ ≠ gb214 ∧ k_ ≠ gb224 ∧ k_ ≠ gb228) v242 y241) ∧ Aside0 (Kd.R k26 26 w' w.heap.size (fun k_ => some k_ ≠ (v242 : Value).ownBlock ∧ k_ ≠ gb213 ∧ k_ ≠ gb214 ∧ k_ ≠ gb224 ∧ k_ ≠ gb228) v18 x18_3) ∧ Aside0 (w'.heap[gb212]? = some (.cells #[.int .i64 a0_0, .int .i64 a0_1, (.slice A0_2 l0_2.length c0_2)] 24 (0, 0))) ∧ Aside0 (w'.heap[gb213]? = some (.cells #[.int .i64 a1_0, .int .i64 a1_1] 26 (0, 0))) ∧ Aside0 (w'.heap[gb214]? = some (.cells #[.int .i64 a2_0, .int .i64 a2_1] 26 (0, 0))) ∧ Aside0 (w'.heap[gb224]? = some (.cells #[.int .i64 t221, .int .i64 t222] 26 (0, 0))) ∧ Aside0 (w'.heap[gb228]? = some (.cells #[.int .i64 t225, .int .i64 t226] 26 (0, 0))) ∧ Aside0 (Below w.heap.size w w'))
                 case atStart => exact ⟨(([] : List (S26))), (1), (by first | rfl | (simp; done) | (simp [*]; done)), H', ⟨Nat.le_refl _⟩, ⟨by (with_reducible repeat (first | apply Kd.R_alloc | apply Kd.R_drewN | apply Kd.R_drew)); exact Kd.R_mono HO243.out (fun _ hk => ⟨(by simp [Value.ownBlock]), ⟨hk.2.1, ⟨hk.2.2.1, ⟨hk.2.2.2.1, hk.2.2.2.2⟩⟩⟩⟩)⟩, ⟨by first | exact Kd.R_nil _ _ _ _ _ | exact Kd.N_nil _ _ _ _ _ | exact Kd.V_nil _ _ _ _ _ | exact Kd.Q_nil _ _ _ _ _ | exact Kd.S_nil _ _ _ _ _⟩, ⟨by (with_reducible repeat (first | refine blk_drewN ?_ _ | refine blk_drew ?_ | refine blk_alloc ?_ _)); exact BK212.out⟩, ⟨by (with_reducible repeat (first | refine blk_drewN ?_ _ | refine blk_drew ?_ | refine blk_alloc ?_ _)); exact BK213.out⟩, ⟨by (with_reducible repeat (first | refine blk_drewN ?_ _ | refine blk_drew ?_ | refine blk_alloc ?_ _)); exact BK214.out⟩, ⟨by (with_reducible repeat (first | refine blk_drewN ?_ _ | refine blk_drew ?_ | refine blk_alloc ?_ _)); exact BK224.out⟩, ⟨by (with_reducible repeat (first | refine blk_drewN ?_ _ | refine blk_drew ?_ | refine blk_alloc ?_ _)); exact BK228.out⟩, ⟨by repeat (first | (with_reducible first | exact HB.out | apply below_alloc | apply pw_below_drewN | apply below_drew1 | refine below_set ?_ (Aside0.out (by assumption))) | exact HB.out)⟩⟩
                 case round =>
                  clear H'
                  try clear c1
                  try clear p2
                  try clear q2
                  try clear hx2
                  try clear c4
                  try clear p6
                  try clear c7
                  try clear c8
                  try clear c9
                  try clear c10
                  try clear p23
                  try clear q23
                  try clear hx23
                  try clear c42
                  try clear p64
                  try clear c78
                  try clear c78b0
                  try clear c79
                  try clear c81
                  try clear c81b0
                  try clear c83
                  try clear c83b0
                  try clear c84
                  try clear c97
                  try clear c99
                  try clear c100
                  try clear c101
                  try clear c102
                  try clear hcz103_0
                  try clear hcz103_1
                  try clear hfz103_0
                  try clear hfz103_1
                  try clear hx233_0
                  try clear hx233_1
                  try clear hx235_0
                  try clear hx235_1
                  try clear hx237_0
                  try clear hx237_1
                  try clear p233
                  try clear p235
                  try clear p237
                  try clear q233
                  try clear q235
                  try clear q237
                  obtain ⟨x18_3, x19_3, rfl, HA, HK3, HO_16, HO_18, BK212, BK213, BK214, BK224, BK228, HB⟩ := hrel
                  cases gk with
                  | zero => exact absurd HA.out (by simp [partitaref05_Cut.l1])
                  | succ k3 =>
                   have H := HA.out
                   clear HA
                   simp only [partitaref05_Cut.l1] at H
                   by_cases c105 : x19_3 < (y241.length : Int)
                   · rw [if_pos c105] at H
                     have c105b0 : decide (x19_3 < (y241.length : Int)) = true := decide_eq_true c105
                     clear c105
                     by_cases c106 : 0 ≤ x19_3
                     · rw [if_pos c106] at H
                       have c106b0 : decide (0 ≤ x19_3) = true := decide_eq_true c106
                       clear c106
                       obtain ⟨ji107, hji107⟩ : ∃ j_ : Int, (wrap64 (x19_3 - 1)) = j_ := ⟨_, rfl⟩
                       replace H : (if 0 ≤ (ji107) then (if (ji107) < (y241.length : Int) then ((partitaref01_Sub.f k3 ((rd_T26 y241 x19_3).f0) ((rd_T26 y241 x19_3).f1) ((rd_T26 y241 (ji107)).f0) ((rd_T26 y241 (ji107)).f1)).bind fun bt246 => (if bt246.2.2 = 0 then (if x18_3.length < 8796093022208 then (partitaref05_Cut.l1 k3 y241 (x18_3 ++ [(⟨bt246.1, bt246.2.1⟩ : S26)]) (wrap64 (x19_3 + 1))) else (none)) else (some (([] : List (S26)), bt246.2.2)))) else (none)) else (none)) = some (r1, r2) := by first | (rw [hji107] at H; exact H) | (simp only [hji107] at H ⊢; exact H)
                       have hji107w : (IntKind.i64.wrap (x19_3 - 1)) = ji107 := (i64_w _).trans hji107
                       by_cases c108 : 0 ≤ (ji107)
                       · rw [if_pos c108] at H
                         have c108b0 : decide (0 ≤ (ji107)) = true := decide_eq_true c108
                         clear c108
                         by_cases c109 : (ji107) < (y241.length : Int)
                         · rw [if_pos c109] at H
                           have c109b0 : decide ((ji107) < (y241.length : Int)) = true := decide_eq_true c109
                           clear c109
                           replace H := Option.bind_eq_some_iff.mp H
                           obtain ⟨⟨t246, t247, t248⟩, A1100, H⟩ := H
                           replace H : (if t248 = 0 then (if x18_3.length < 8796093022208 then (partitaref05_Cut.l1 k3 y241 (x18_3 ++ [(⟨t246, t247⟩ : S26)]) (wrap64 (x19_3 + 1))) else (none)) else (some (([] : List (S26)), t248))) = some (r1, r2) := H
                           have A110 := Aside0.mk A1100
                           clear A1100
                           by_cases c111 : t248 = 0
                           · rw [if_pos c111] at H
                             have c111b0 : (t248 == 0) = true := beq_iff_eq.mpr c111
                             have c111b1 : (t248 != 0) = false := bne_eq_false_iff_eq.mpr c111
                             clear c111
                             by_cases c112 : x18_3.length < 8796093022208
                             · rw [if_pos c112] at H
                               have LMc112 := Aside0.mk c112
                               clear c112
                               obtain ⟨y250, hy250⟩ : ∃ y_ : List (S26), y_ = (x18_3 ++ [(⟨t246, t247⟩ : S26)]) := ⟨_, rfl⟩
                               replace H : (partitaref05_Cut.l1 k3 y241 y250 (wrap64 (x19_3 + 1))) = some (r1, r2) := by first | (rw [hy250]; with_reducible exact H) | (have H2_ := (Option.bind_some _ _).symm.trans H; rw [hy250]; with_reducible exact H2_) | (have H2_ := (Option.bind_some _ _).symm.trans H; with_reducible exact H2_) | with_reducible exact H | (rw [hy250]; exact H) | exact H
                               have Ny250 := Aside0.mk hy250
                               clear hy250
                               have H' := Aside0.mk H
                               clear H
                               obtain ⟨Ao113, co113, eo113⟩ := Kd.R_slice HO_16.out
                               subst eo113
                               try go_wp2
                               have n0_ := Aside0.mk (Kd.R_drew HO_16.out)
                               have n1_ := Aside0.mk (Kd.R_drew HO_18.out)
                               have n2_ := Aside0.mk (blk_drew BK212.out)
                               have n3_ := Aside0.mk (blk_drew BK213.out)
                               have n4_ := Aside0.mk (blk_drew BK214.out)
                               have n5_ := Aside0.mk (blk_drew BK224.out)
                               have n6_ := Aside0.mk (blk_drew BK228.out)
                               have n7_ := Aside0.mk (below_drew1 HB.out)
                               clear HO_16
                               clear HO_18
                               clear BK212
                               clear BK213
                               clear BK214
                               clear BK224
                               clear BK228
                               clear HB
                               have HO_16 := n0_
                               have HO_18 := n1_
                               have BK212 := n2_
                               have BK213 := n3_
                               have BK214 := n4_
                               have BK224 := n5_
                               have BK228 := n6_
                               have HB := n7_
                               clear n0_ n1_ n2_ n3_ n4_ n5_ n6_ n7_
                               have p244 : 0 ≤ (x19_3 : Int) := of_decide_eq_true (by first | (with_reducible assumption) | assumption)
                               have q244 : x19_3 < (y241.length : Int) := of_decide_eq_true (by first | (with_reducible assumption) | assumption)
                               obtain ⟨ad244, e244, hx244_0, hx244_1⟩ := at_T26 (Kd.R_reads' HO_16.out).2.2 x19_3 p244 q244
                               cases e244
                               replace p244 := eq_true p244
                               replace q244 := eq_true q244
                               have p245 : 0 ≤ ((ji107) : Int) := of_decide_eq_true (by first | (with_reducible assumption) | assumption)
                               have q245 : (ji107) < (y241.length : Int) := of_decide_eq_true (by first | (with_reducible assumption) | assumption)
                               obtain ⟨ad245, e245, hx245_0, hx245_1⟩ := at_T26 (Kd.R_reads' HO_16.out).2.2 (ji107) p245 q245
                               obtain rfl : ad244 = ad245 := (by injection e245)
                               replace p245 := eq_true p245
                               replace q245 := eq_true q245
                               refine start_ (n := 16) (S := fun w' => w'.cell? (ad244.add ((x19_3).toNat * 2)) = some (.int .i64 ((rd_T26 y241 x19_3).f0)) ∧ w'.cell? ⟨(ad244.add ((x19_3).toNat * 2)).block, (ad244.add ((x19_3).toNat * 2)).off + 1, none⟩ = some (.int .i64 ((rd_T26 y241 x19_3).f1)) ∧ w'.cell? (ad244.add (((ji107)).toNat * 2)) = some (.int .i64 ((rd_T26 y241 (ji107)).f0)) ∧ w'.cell? ⟨(ad244.add (((ji107)).toNat * 2)).block, (ad244.add (((ji107)).toNat * 2)).off + 1, none⟩ = some (.int .i64 ((rd_T26 y241 (ji107)).f1))) (ds := []) #[false, false, false, false, false, false, false, false, false, false, false, false, false, false, false, false] (by kernel_rfl) rfl rfl ⟨hx244_0, hx244_1, hx245_0, hx245_1⟩ (fun hHeld => ?_); refine with_tabW partitaref05_Cut.tab25 partitaref05_Cut.bits25 (fun HT_ HW_ => ?_)
                               generalize wr.drew = w114 at HO_16 HO_18 BK212 BK213 BK214 BK224 BK228 HB hx244_0 hx244_1 hx245_0 hx245_1 hHeld ⊢
                               refine pure_ (i := 0) (N := some 106) (v := ?_) (a' := ?_) #[true, false, false, false, false, false, false, false, false, false, false, false, false, false, false, false] rfl rfl (any_of HT_.out (by kernel_rfl)) (fun _ _ _ h => h) (Or.inl ⟨by rfl, ?_⟩) ?_ ?_
                               rotate_left
                               · intro w'
                                 go_simp
                                 with_reducible rfl
                               rotate_left
                               · simp only [Act.put, qa_, qz_, qs_, i64_w, i32_w]
                                 rfl
                               refine pure_ (i := 1) (N := some 107) (v := ?_) (a' := ?_) #[true, true, false, false, false, false, false, false, false, false, false, false, false, false, false, false] rfl rfl (any_of HT_.out (by kernel_rfl)) (fun _ _ _ h => h) (Or.inl ⟨by rfl, ?_⟩) ?_ ?_
                               rotate_left
                               · intro w'
                                 go_simp
                                 with_reducible rfl
                               rotate_left
                               · simp only [Act.put, qa_, qz_, qs_, i64_w, i32_w]
                                 rfl
                               refine pure_ (i := 2) (N := some 108) (v := ?_) (a' := ?_) #[true, true, true, false, false, false, false, false, false, false, false, false, false, false, false, false] rfl rfl (any_of HT_.out (by kernel_rfl)) (fun _ _ _ h => h) (Or.inl ⟨by rfl, ?_⟩) ?_ ?_
                               rotate_left
                               · intro w'
                                 go_simp
                                 with_reducible rfl
                               rotate_left
                               · simp only [Act.put, qa_, qz_, qs_, i64_w, i32_w]
                                 rfl
                               refine pure_ (i := 4) (N := some 110) (v := ?_) (a' := ?_) #[true, true, true, false, true, false, false, false, false, false, false, false, false, false, false, false] rfl rfl (any_of HT_.out (by kernel_rfl)) (fun _ _ _ h => h) (Or.inl ⟨by rfl, ?_⟩) ?_ ?_
                               rotate_left
                               · intro w'
                                 go_simp
                                 with_reducible rfl
                               rotate_left
                               · simp only [Act.put, qa_, qz_, qs_, i64_w, i32_w]
                                 rfl
                               refine pure_ (i := 5) (N := some 111) (v := ?_) (a' := ?_) #[true, true, true, false, true, true, false, false, false, false, false, false, false, false, false, false] rfl rfl (any_of HT_.out (by kernel_rfl)) (fun _ _ _ h => h) (Or.inl ⟨by rfl, ?_⟩) ?_ ?_
                               rotate_left
                               · intro w'
                                 go_simp
                                 with_reducible rfl
                               rotate_left
                               · simp only [Act.put, qa_, qz_, qs_, i64_w, i32_w]
                                 rfl
                               refine pure_ (i := 6) (N := some 112) (v := ?_) (a' := ?_) #[true, true, true, false, true, true, true, false, false, false, false, false, false, false, false, false] rfl rfl (any_of HT_.out (by kernel_rfl)) (fun _ _ _ h => h) (Or.inl ⟨by rfl, ?_⟩) ?_ ?_
                               rotate_left
                               · intro w'
                                 go_simp
                                 with_reducible rfl
                               rotate_left
                               · simp only [Act.put, qa_, qz_, qs_, i64_w, i32_w]
                                 rfl
                               refine pure_ (i := 7) (N := some 113) (v := ?_) (a' := ?_) #[true, true, true, false, true, true, true, true, false, false, false, false, false, false, false, false] rfl rfl (any_of HT_.out (by kernel_rfl)) (fun _ _ _ h => h) (Or.inl ⟨by rfl, ?_⟩) ?_ ?_
                               rotate_left
                               · intro w'
                                 go_simp
                                 with_reducible rfl
                               rotate_left
                               · simp only [Act.put, qa_, qz_, qs_, i64_w, i32_w]
                                 rfl
                               refine take_ (i := 3) (N := some 109) (v := ?_) (a' := ?_) #[true, true, true, true, true, true, true, true, false, false, false, false, false, false, false, false] rfl rfl (take_ofW HT_.out HW_.out (by kernel_rfl)) (fun _ _ _ h => h) (Or.inl ⟨by rfl, ?_⟩) hHeld ?_ ?_
                               rotate_left
                               · rintro w' ⟨s0, s1, s2, s3⟩
                                 go_simp
                                 with_reducible rfl
                               rotate_left
                               · simp only [Act.put, qa_, qz_, qs_, i64_w, i32_w]
                                 rfl
                               refine take_ (i := 8) (N := some 114) (v := ?_) (a' := ?_) #[true, true, true, true, true, true, true, true, true, false, false, false, false, false, false, false] rfl rfl (take_ofW HT_.out HW_.out (by kernel_rfl)) (fun _ _ _ h => h) (Or.inl ⟨by rfl, ?_⟩) hHeld ?_ ?_
                               rotate_left
                               · rintro w' ⟨s0, s1, s2, s3⟩
                                 go_simp
                                 with_reducible rfl
                               rotate_left
                               · simp only [Act.put, qa_, qz_, qs_, i64_w, i32_w]
                                 rfl
                               refine join_ (σ := Nat) 2 #[true, true, true, true, true, true, true, true, true, true, true, true, true, true, false, false] (fun s_ => [(115, .tuple #[.agg #[.int .i64 t246, .int .i64 t247], .int .i64 t248]), (20, .pointer (some ⟨s_, 0, none⟩)), (105, .tuple #[.agg #[.int .i64 t246, .int .i64 t247], .int .i64 t248]), (116, .agg #[.int .i64 t246, .int .i64 t247]), (117, .int .i64 t248)]) (fun s_ w' => (w'.cell? (ad244.add ((x19_3).toNat * 2)) = some (.int .i64 ((rd_T26 y241 x19_3).f0)) ∧ w'.cell? ⟨(ad244.add ((x19_3).toNat * 2)).block, (ad244.add ((x19_3).toNat * 2)).off + 1, none⟩ = some (.int .i64 ((rd_T26 y241 x19_3).f1)) ∧ w'.cell? (ad244.add (((ji107)).toNat * 2)) = some (.int .i64 ((rd_T26 y241 (ji107)).f0)) ∧ w'.cell? ⟨(ad244.add (((ji107)).toNat * 2)).block, (ad244.add (((ji107)).toNat * 2)).off + 1, none⟩ = some (.int .i64 ((rd_T26 y241 (ji107)).f1))) ∧ (Kd.R k26 26 w' w.heap.size (fun k_ => some k_ ≠ (u18 : Value).ownBlock ∧ k_ ≠ gb213 ∧ k_ ≠ gb214 ∧ k_ ≠ gb224 ∧ k_ ≠ gb228 ∧ k_ ≠ s_) (.slice (some ad244) y241.length co113) y241) ∧ (Kd.R k26 26 w' w.heap.size (fun k_ => some k_ ≠ (.slice (some ad244) y241.length co113 : Value).ownBlock ∧ k_ ≠ gb213 ∧ k_ ≠ gb214 ∧ k_ ≠ gb224 ∧ k_ ≠ gb228 ∧ k_ ≠ s_) u18 x18_3) ∧ (w'.heap[gb212]? = some (.cells #[.int .i64 a0_0, .int .i64 a0_1, .slice A0_2 l0_2.length c0_2] 24 (0, 0))) ∧ (w'.heap[gb213]? = some (.cells #[.int .i64 a1_0, .int .i64 a1_1] 26 (0, 0))) ∧ (w'.heap[gb214]? = some (.cells #[.int .i64 a2_0, .int .i64 a2_1] 26 (0, 0))) ∧ (w'.heap[gb224]? = some (.cells #[.int .i64 t221, .int .i64 t222] 26 (0, 0))) ∧ (w'.heap[gb228]? = some (.cells #[.int .i64 t225, .int .i64 t226] 26 (0, 0))) ∧ (w'.heap[s_]? = some (.cells #[.int .i64 0, .int .i64 0] 26 (0, 0))) ∧ (w.heap.size ≤ s_) ∧ (w.heap.size ≤ s_) ∧ (gb212 ≠ s_) ∧ (s_ ≠ gb212) ∧ (gb213 ≠ s_) ∧ (s_ ≠ gb213) ∧ (gb214 ≠ s_) ∧ (s_ ≠ gb214) ∧ (gb224 ≠ s_) ∧ (s_ ≠ gb224) ∧ (gb228 ≠ s_) ∧ (s_ ≠ gb228) ∧ (Below w.heap.size w w')) ?_ ?_
                               rotate_left
                               · intro hCont
                                 refine two_ (i := 9) (j := 13) (Ni := some 115) (Nj := some 20) #[true, true, true, true, true, true, true, true, true, true, false, false, false, false, false, false] #[true, true, true, true, true, true, true, true, true, false, false, false, false, true, false, false] rfl rfl rfl rfl (two_of HT_.out (by kernel_rfl)) (by decide) (by decide) (fun K hK => ?_) (fun K hK => ?_)
                                 · skip
                                   refine goes_ Try.func43 (by kernel_rfl) rfl #[.agg #[.int .i64 ((rd_T26 y241 x19_3).f0), .int .i64 ((rd_T26 y241 x19_3).f1)], .agg #[.int .i64 ((rd_T26 y241 (ji107)).f0), .int .i64 ((rd_T26 y241 (ji107)).f1)]] (by rfl) rfl rfl (by (try simp only [List.map_toArray, List.map_cons, List.map_nil]); first | done | (simp only [hji107]; rfl) | rfl | (simp only [List.length_drop, List.length_take]; rfl)) ?_
                                   with_reducible refine (partitaref01_Sub.calls k3 ((rd_T26 y241 x19_3).f0) ((rd_T26 y241 x19_3).f1) ((rd_T26 y241 (ji107)).f0) ((rd_T26 y241 (ji107)).f1) t246 t247 t248 _ A110.out).mono ?_
                                   rintro e w115 ⟨rfl, hb⟩
                                   have HS0_ := (hb.cell (World.block_lt_of_cell? _ _ (hHeld.1))).trans (hHeld.1)
                                   have HS1_ := (hb.cell (World.block_lt_of_cell? _ _ (hHeld.2.1))).trans (hHeld.2.1)
                                   have HS2_ := (hb.cell (World.block_lt_of_cell? _ _ (hHeld.2.2.1))).trans (hHeld.2.2.1)
                                   have HS3_ := (hb.cell (World.block_lt_of_cell? _ _ (hHeld.2.2.2))).trans (hHeld.2.2.2)
                                   refine ⟨_, rfl, ?_⟩
                                   have n0_ := Aside0.mk (Kd.R_below (qR HO_16.out) hb)
                                   have n1_ := Aside0.mk (Kd.R_below (qR HO_18.out) hb)
                                   have n2_ := Aside0.mk (blk_below (qB BK212.out) hb)
                                   have n3_ := Aside0.mk (blk_below (qB BK213.out) hb)
                                   have n4_ := Aside0.mk (blk_below (qB BK214.out) hb)
                                   have n5_ := Aside0.mk (blk_below (qB BK224.out) hb)
                                   have n6_ := Aside0.mk (blk_below (qB BK228.out) hb)
                                   have n7_ := Aside0.mk (below_step (by repeat (first | (with_reducible first | exact HB.out | apply below_alloc | apply pw_below_drewN | apply below_drew1 | refine below_set ?_ (Aside0.out (by assumption))) | exact HB.out)) hb)
                                   clear HO_16
                                   clear HO_18
                                   clear BK212
                                   clear BK213
                                   clear BK214
                                   clear BK224
                                   clear BK228
                                   clear HB
                                   have HO_16 := n0_
                                   have HO_18 := n1_
                                   have BK212 := n2_
                                   have BK213 := n3_
                                   have BK214 := n4_
                                   have BK224 := n5_
                                   have BK228 := n6_
                                   have HB := n7_
                                   clear n0_ n1_ n2_ n3_ n4_ n5_ n6_ n7_
                                   (try clear hb)
                                   (try clear hb2)
                                   (try clear hk)
                                   (try clear hi)
                                   refine hK.out _ _ ⟨HS0_, HS1_, HS2_, HS3_⟩ (fun hHeld => ?_)
                                   clear hK K
                                   refine norm_ (a' := ?_) ?_ ?_
                                   rotate_left
                                   · show Act.put _ (some 115) _ = _
                                     simp only [Act.put, qa_, qz_, qs_, i64_w, i32_w]
                                     rfl
                                   refine pure_ (i := 10) (N := some 105) (v := ?_) (a' := ?_) #[true, true, true, true, true, true, true, true, true, true, true, false, false, false, false, false] rfl rfl (any_of HT_.out (by kernel_rfl)) (fun _ _ _ h => h) (Or.inl ⟨by rfl, ?_⟩) ?_ ?_
                                   rotate_left
                                   · intro w'
                                     go_simp
                                     with_reducible rfl
                                   rotate_left
                                   · simp only [Act.put, qa_, qz_, qs_, i64_w, i32_w]
                                     rfl
                                   refine pure_ (i := 11) (N := some 116) (v := ?_) (a' := ?_) #[true, true, true, true, true, true, true, true, true, true, true, true, false, false, false, false] rfl rfl (any_of HT_.out (by kernel_rfl)) (fun _ _ _ h => h) (Or.inl ⟨by rfl, ?_⟩) ?_ ?_
                                   rotate_left
                                   · intro w'
                                     go_simp
                                     with_reducible rfl
                                   rotate_left
                                   · simp only [Act.put, qa_, qz_, qs_, i64_w, i32_w]
                                     rfl
                                   refine pure_ (i := 12) (N := some 117) (v := ?_) (a' := ?_) #[true, true, true, true, true, true, true, true, true, true, true, true, true, false, false, false] rfl rfl (any_of HT_.out (by kernel_rfl)) (fun _ _ _ h => h) (Or.inl ⟨by rfl, ?_⟩) ?_ ?_
                                   rotate_left
                                   · intro w'
                                     go_simp
                                     with_reducible rfl
                                   rotate_left
                                   · simp only [Act.put, qa_, qz_, qs_, i64_w, i32_w]
                                     rfl
                                   refine one_ (i := 13) (N := some 20) #[true, true, true, true, true, true, true, true, true, true, true, true, true, true, false, false] rfl rfl (one_of HT_.out (by kernel_rfl)) (by decide) (fun K hK => ?_)
                                   refine box_step ?hg (N := 20) ?hd (cs := #[.int .i64 0, .int .i64 0]) (t := 26) ?hr ?_; (case hd => rfl); (case hg => rfl); (case hr => first | (go_simp; done) | (go_simp; rfl))
                                   intro gb249 hg w116 hbox hb
                                   have HS0_ := (hb.cell (World.block_lt_of_cell? _ _ (hHeld.1))).trans (hHeld.1)
                                   have HS1_ := (hb.cell (World.block_lt_of_cell? _ _ (hHeld.2.1))).trans (hHeld.2.1)
                                   have HS2_ := (hb.cell (World.block_lt_of_cell? _ _ (hHeld.2.2.1))).trans (hHeld.2.2.1)
                                   have HS3_ := (hb.cell (World.block_lt_of_cell? _ _ (hHeld.2.2.2))).trans (hHeld.2.2.2)
                                   have n0_ := Aside0.mk (Kd.R_below (Kd.R_elderB (qR HO_16.out) gb249 (Nat.le_of_eq hg.symm)) hb)
                                   have n1_ := Aside0.mk (Kd.R_below (Kd.R_elderB (qR HO_18.out) gb249 (Nat.le_of_eq hg.symm)) hb)
                                   have n2_ := Aside0.mk (blk_below (qB BK212.out) hb)
                                   have n3_ := Aside0.mk (blk_below (qB BK213.out) hb)
                                   have n4_ := Aside0.mk (blk_below (qB BK214.out) hb)
                                   have n5_ := Aside0.mk (blk_below (qB BK224.out) hb)
                                   have n6_ := Aside0.mk (blk_below (qB BK228.out) hb)
                                   have n7_ := Aside0.mk (below_step (by repeat (first | (with_reducible first | exact HB.out | apply below_alloc | apply pw_below_drewN | apply below_drew1 | refine below_set ?_ (Aside0.out (by assumption))) | exact HB.out)) hb)
                                   have n8_ := Aside0.mk (hbox)
                                   have n9_ := Aside0.mk ((by rw [hg]; exact (below_size (by repeat (first | (with_reducible first | exact HB.out | apply below_alloc | apply pw_below_drewN | apply below_drew1 | refine below_set ?_ (Aside0.out (by assumption))) | exact HB.out))) : w.heap.size ≤ gb249))
                                   have n10_ := Aside0.mk ((by rw [hg]; exact (below_size (by repeat (first | (with_reducible first | exact HB.out | apply below_alloc | apply pw_below_drewN | apply below_drew1 | refine below_set ?_ (Aside0.out (by assumption))) | exact HB.out))) : w.heap.size ≤ gb249))
                                   have n11_ := Aside0.mk ((by rw [hg]; exact Nat.ne_of_lt (blk_lt (qB BK212.out)) : gb212 ≠ gb249))
                                   have n12_ := Aside0.mk ((by rw [hg]; exact Nat.ne_of_gt (blk_lt (qB BK212.out)) : gb249 ≠ gb212))
                                   have n13_ := Aside0.mk ((by rw [hg]; exact Nat.ne_of_lt (blk_lt (qB BK213.out)) : gb213 ≠ gb249))
                                   have n14_ := Aside0.mk ((by rw [hg]; exact Nat.ne_of_gt (blk_lt (qB BK213.out)) : gb249 ≠ gb213))
                                   have n15_ := Aside0.mk ((by rw [hg]; exact Nat.ne_of_lt (blk_lt (qB BK214.out)) : gb214 ≠ gb249))
                                   have n16_ := Aside0.mk ((by rw [hg]; exact Nat.ne_of_gt (blk_lt (qB BK214.out)) : gb249 ≠ gb214))
                                   have n17_ := Aside0.mk ((by rw [hg]; exact Nat.ne_of_lt (blk_lt (qB BK224.out)) : gb224 ≠ gb249))
                                   have n18_ := Aside0.mk ((by rw [hg]; exact Nat.ne_of_gt (blk_lt (qB BK224.out)) : gb249 ≠ gb224))
                                   have n19_ := Aside0.mk ((by rw [hg]; exact Nat.ne_of_lt (blk_lt (qB BK228.out)) : gb228 ≠ gb249))
                                   have n20_ := Aside0.mk ((by rw [hg]; exact Nat.ne_of_gt (blk_lt (qB BK228.out)) : gb249 ≠ gb228))
                                   clear HO_16
                                   clear HO_18
                                   clear BK212
                                   clear BK213
                                   clear BK214
                                   clear BK224
                                   clear BK228
                                   clear HB
                                   have HO_16 := n0_
                                   have HO_18 := n1_
                                   have BK212 := n2_
                                   have BK213 := n3_
                                   have BK214 := n4_
                                   have BK224 := n5_
                                   have BK228 := n6_
                                   have HB := n7_
                                   have BK249 := n8_
                                   have GW249 := n9_
                                   have GE249 := n10_
                                   have NB212_249 := n11_
                                   have NB249_212 := n12_
                                   have NB213_249 := n13_
                                   have NB249_213 := n14_
                                   have NB214_249 := n15_
                                   have NB249_214 := n16_
                                   have NB224_249 := n17_
                                   have NB249_224 := n18_
                                   have NB228_249 := n19_
                                   have NB249_228 := n20_
                                   clear n0_ n1_ n2_ n3_ n4_ n5_ n6_ n7_ n8_ n9_ n10_ n11_ n12_ n13_ n14_ n15_ n16_ n17_ n18_ n19_ n20_
                                   clear hb hbox hg
                                   refine hK.out _ _ ⟨HS0_, HS1_, HS2_, HS3_⟩ (fun hHeld => ?_)
                                   clear hK K
                                   refine norm_ (a' := ?_) ?_ ?_
                                   rotate_left
                                   · show Act.put _ (some 20) _ = _
                                     simp only [Act.put, qa_, qz_, qs_, i64_w, i32_w]
                                     rfl
                                   exact norm_ (by simp only [putAll, Act.put, qa_, qz_, qs_]) (hCont (gb249) _ ⟨hHeld, (qR (Kd.R_mono HO_16.out (fun _ hk => ⟨hk.1.1, ⟨hk.1.2.1, ⟨hk.1.2.2.1, ⟨hk.1.2.2.2.1, ⟨hk.1.2.2.2.2, hk.2⟩⟩⟩⟩⟩))), (qR (Kd.R_mono HO_18.out (fun _ hk => ⟨hk.1.1, ⟨hk.1.2.1, ⟨hk.1.2.2.1, ⟨hk.1.2.2.2.1, ⟨hk.1.2.2.2.2, hk.2⟩⟩⟩⟩⟩))), (qB BK212.out), (qB BK213.out), (qB BK214.out), (qB BK224.out), (qB BK228.out), (qB BK249.out), GW249.out, GE249.out, NB212_249.out, NB249_212.out, NB213_249.out, NB249_213.out, NB214_249.out, NB249_214.out, NB224_249.out, NB249_224.out, NB228_249.out, NB249_228.out, (by repeat (first | (with_reducible first | exact HB.out | apply below_alloc | apply pw_below_drewN | apply below_drew1 | refine below_set ?_ (Aside0.out (by assumption))) | exact HB.out))⟩)
                                 · skip
                                   refine box_step ?hg (N := 20) ?hd (cs := #[.int .i64 0, .int .i64 0]) (t := 26) ?hr ?_; (case hd => rfl); (case hg => rfl); (case hr => first | (go_simp; done) | (go_simp; rfl))
                                   intro gb249 hg w115 hbox hb
                                   have HS0_ := (hb.cell (World.block_lt_of_cell? _ _ (hHeld.1))).trans (hHeld.1)
                                   have HS1_ := (hb.cell (World.block_lt_of_cell? _ _ (hHeld.2.1))).trans (hHeld.2.1)
                                   have HS2_ := (hb.cell (World.block_lt_of_cell? _ _ (hHeld.2.2.1))).trans (hHeld.2.2.1)
                                   have HS3_ := (hb.cell (World.block_lt_of_cell? _ _ (hHeld.2.2.2))).trans (hHeld.2.2.2)
                                   have n0_ := Aside0.mk (Kd.R_below (Kd.R_elderB (qR HO_16.out) gb249 (Nat.le_of_eq hg.symm)) hb)
                                   have n1_ := Aside0.mk (Kd.R_below (Kd.R_elderB (qR HO_18.out) gb249 (Nat.le_of_eq hg.symm)) hb)
                                   have n2_ := Aside0.mk (blk_below (qB BK212.out) hb)
                                   have n3_ := Aside0.mk (blk_below (qB BK213.out) hb)
                                   have n4_ := Aside0.mk (blk_below (qB BK214.out) hb)
                                   have n5_ := Aside0.mk (blk_below (qB BK224.out) hb)
                                   have n6_ := Aside0.mk (blk_below (qB BK228.out) hb)
                                   have n7_ := Aside0.mk (below_step (by repeat (first | (with_reducible first | exact HB.out | apply below_alloc | apply pw_below_drewN | apply below_drew1 | refine below_set ?_ (Aside0.out (by assumption))) | exact HB.out)) hb)
                                   have n8_ := Aside0.mk (hbox)
                                   have n9_ := Aside0.mk ((by rw [hg]; exact (below_size (by repeat (first | (with_reducible first | exact HB.out | apply below_alloc | apply pw_below_drewN | apply below_drew1 | refine below_set ?_ (Aside0.out (by assumption))) | exact HB.out))) : w.heap.size ≤ gb249))
                                   have n10_ := Aside0.mk ((by rw [hg]; exact (below_size (by repeat (first | (with_reducible first | exact HB.out | apply below_alloc | apply pw_below_drewN | apply below_drew1 | refine below_set ?_ (Aside0.out (by assumption))) | exact HB.out))) : w.heap.size ≤ gb249))
                                   have n11_ := Aside0.mk ((by rw [hg]; exact Nat.ne_of_lt (blk_lt (qB BK212.out)) : gb212 ≠ gb249))
                                   have n12_ := Aside0.mk ((by rw [hg]; exact Nat.ne_of_gt (blk_lt (qB BK212.out)) : gb249 ≠ gb212))
                                   have n13_ := Aside0.mk ((by rw [hg]; exact Nat.ne_of_lt (blk_lt (qB BK213.out)) : gb213 ≠ gb249))
                                   have n14_ := Aside0.mk ((by rw [hg]; exact Nat.ne_of_gt (blk_lt (qB BK213.out)) : gb249 ≠ gb213))
                                   have n15_ := Aside0.mk ((by rw [hg]; exact Nat.ne_of_lt (blk_lt (qB BK214.out)) : gb214 ≠ gb249))
                                   have n16_ := Aside0.mk ((by rw [hg]; exact Nat.ne_of_gt (blk_lt (qB BK214.out)) : gb249 ≠ gb214))
                                   have n17_ := Aside0.mk ((by rw [hg]; exact Nat.ne_of_lt (blk_lt (qB BK224.out)) : gb224 ≠ gb249))
                                   have n18_ := Aside0.mk ((by rw [hg]; exact Nat.ne_of_gt (blk_lt (qB BK224.out)) : gb249 ≠ gb224))
                                   have n19_ := Aside0.mk ((by rw [hg]; exact Nat.ne_of_lt (blk_lt (qB BK228.out)) : gb228 ≠ gb249))
                                   have n20_ := Aside0.mk ((by rw [hg]; exact Nat.ne_of_gt (blk_lt (qB BK228.out)) : gb249 ≠ gb228))
                                   clear HO_16
                                   clear HO_18
                                   clear BK212
                                   clear BK213
                                   clear BK214
                                   clear BK224
                                   clear BK228
                                   clear HB
                                   have HO_16 := n0_
                                   have HO_18 := n1_
                                   have BK212 := n2_
                                   have BK213 := n3_
                                   have BK214 := n4_
                                   have BK224 := n5_
                                   have BK228 := n6_
                                   have HB := n7_
                                   have BK249 := n8_
                                   have GW249 := n9_
                                   have GE249 := n10_
                                   have NB212_249 := n11_
                                   have NB249_212 := n12_
                                   have NB213_249 := n13_
                                   have NB249_213 := n14_
                                   have NB214_249 := n15_
                                   have NB249_214 := n16_
                                   have NB224_249 := n17_
                                   have NB249_224 := n18_
                                   have NB228_249 := n19_
                                   have NB249_228 := n20_
                                   clear n0_ n1_ n2_ n3_ n4_ n5_ n6_ n7_ n8_ n9_ n10_ n11_ n12_ n13_ n14_ n15_ n16_ n17_ n18_ n19_ n20_
                                   clear hb hbox hg
                                   refine hK.out _ _ ⟨HS0_, HS1_, HS2_, HS3_⟩ (fun hHeld => ?_)
                                   clear hK K
                                   refine norm_ (a' := ?_) ?_ ?_
                                   rotate_left
                                   · show Act.put _ (some 20) _ = _
                                     simp only [Act.put, qa_, qz_, qs_, i64_w, i32_w]
                                     rfl
                                   refine one_ (i := 9) (N := some 115) #[true, true, true, true, true, true, true, true, true, true, false, false, false, true, false, false] rfl rfl (one_of HT_.out (by kernel_rfl)) (by decide) (fun K hK => ?_)
                                   refine goes_ Try.func43 (by kernel_rfl) rfl #[.agg #[.int .i64 ((rd_T26 y241 x19_3).f0), .int .i64 ((rd_T26 y241 x19_3).f1)], .agg #[.int .i64 ((rd_T26 y241 (ji107)).f0), .int .i64 ((rd_T26 y241 (ji107)).f1)]] (by rfl) rfl rfl (by (try simp only [List.map_toArray, List.map_cons, List.map_nil]); first | done | (simp only [hji107]; rfl) | rfl | (simp only [List.length_drop, List.length_take]; rfl)) ?_
                                   with_reducible refine (partitaref01_Sub.calls k3 ((rd_T26 y241 x19_3).f0) ((rd_T26 y241 x19_3).f1) ((rd_T26 y241 (ji107)).f0) ((rd_T26 y241 (ji107)).f1) t246 t247 t248 _ A110.out).mono ?_
                                   rintro e w116 ⟨rfl, hb⟩
                                   have HS0_ := (hb.cell (World.block_lt_of_cell? _ _ (hHeld.1))).trans (hHeld.1)
                                   have HS1_ := (hb.cell (World.block_lt_of_cell? _ _ (hHeld.2.1))).trans (hHeld.2.1)
                                   have HS2_ := (hb.cell (World.block_lt_of_cell? _ _ (hHeld.2.2.1))).trans (hHeld.2.2.1)
                                   have HS3_ := (hb.cell (World.block_lt_of_cell? _ _ (hHeld.2.2.2))).trans (hHeld.2.2.2)
                                   refine ⟨_, rfl, ?_⟩
                                   have n0_ := Aside0.mk (Kd.R_below (qR HO_16.out) hb)
                                   have n1_ := Aside0.mk (Kd.R_below (qR HO_18.out) hb)
                                   have n2_ := Aside0.mk (blk_below (qB BK212.out) hb)
                                   have n3_ := Aside0.mk (blk_below (qB BK213.out) hb)
                                   have n4_ := Aside0.mk (blk_below (qB BK214.out) hb)
                                   have n5_ := Aside0.mk (blk_below (qB BK224.out) hb)
                                   have n6_ := Aside0.mk (blk_below (qB BK228.out) hb)
                                   have n7_ := Aside0.mk (blk_below (qB BK249.out) hb)
                                   have n8_ := Aside0.mk (below_step (by repeat (first | (with_reducible first | exact HB.out | apply below_alloc | apply pw_below_drewN | apply below_drew1 | refine below_set ?_ (Aside0.out (by assumption))) | exact HB.out)) hb)
                                   clear HO_16
                                   clear HO_18
                                   clear BK212
                                   clear BK213
                                   clear BK214
                                   clear BK224
                                   clear BK228
                                   clear BK249
                                   clear HB
                                   have HO_16 := n0_
                                   have HO_18 := n1_
                                   have BK212 := n2_
                                   have BK213 := n3_
                                   have BK214 := n4_
                                   have BK224 := n5_
                                   have BK228 := n6_
                                   have BK249 := n7_
                                   have HB := n8_
                                   clear n0_ n1_ n2_ n3_ n4_ n5_ n6_ n7_ n8_
                                   (try clear hb)
                                   (try clear hb2)
                                   (try clear hk)
                                   (try clear hi)
                                   refine hK.out _ _ ⟨HS0_, HS1_, HS2_, HS3_⟩ (fun hHeld => ?_)
                                   clear hK K
                                   refine norm_ (a' := ?_) ?_ ?_
                                   rotate_left
                                   · show Act.put _ (some 115) _ = _
                                     simp only [Act.put, qa_, qz_, qs_, i64_w, i32_w]
                                     rfl
                                   refine pure_ (i := 10) (N := some 105) (v := ?_) (a' := ?_) #[true, true, true, true, true, true, true, true, true, true, true, false, false, true, false, false] rfl rfl (any_of HT_.out (by kernel_rfl)) (fun _ _ _ h => h) (Or.inl ⟨by rfl, ?_⟩) ?_ ?_
                                   rotate_left
                                   · intro w'
                                     go_simp
                                     with_reducible rfl
                                   rotate_left
                                   · simp only [Act.put, qa_, qz_, qs_, i64_w, i32_w]
                                     rfl
                                   refine pure_ (i := 11) (N := some 116) (v := ?_) (a' := ?_) #[true, true, true, true, true, true, true, true, true, true, true, true, false, true, false, false] rfl rfl (any_of HT_.out (by kernel_rfl)) (fun _ _ _ h => h) (Or.inl ⟨by rfl, ?_⟩) ?_ ?_
                                   rotate_left
                                   · intro w'
                                     go_simp
                                     with_reducible rfl
                                   rotate_left
                                   · simp only [Act.put, qa_, qz_, qs_, i64_w, i32_w]
                                     rfl
                                   refine pure_ (i := 12) (N := some 117) (v := ?_) (a' := ?_) #[true, true, true, true, true, true, true, true, true, true, true, true, true, true, false, false] rfl rfl (any_of HT_.out (by kernel_rfl)) (fun _ _ _ h => h) (Or.inl ⟨by rfl, ?_⟩) ?_ ?_
                                   rotate_left
                                   · intro w'
                                     go_simp
                                     with_reducible rfl
                                   rotate_left
                                   · simp only [Act.put, qa_, qz_, qs_, i64_w, i32_w]
                                     rfl
                                   exact norm_ (by simp only [putAll, Act.put, qa_, qz_, qs_]) (hCont (gb249) _ ⟨hHeld, (qR (Kd.R_mono HO_16.out (fun _ hk => ⟨hk.1.1, ⟨hk.1.2.1, ⟨hk.1.2.2.1, ⟨hk.1.2.2.2.1, ⟨hk.1.2.2.2.2, hk.2⟩⟩⟩⟩⟩))), (qR (Kd.R_mono HO_18.out (fun _ hk => ⟨hk.1.1, ⟨hk.1.2.1, ⟨hk.1.2.2.1, ⟨hk.1.2.2.2.1, ⟨hk.1.2.2.2.2, hk.2⟩⟩⟩⟩⟩))), (qB BK212.out), (qB BK213.out), (qB BK214.out), (qB BK224.out), (qB BK228.out), (qB BK249.out), GW249.out, GE249.out, NB212_249.out, NB249_212.out, NB213_249.out, NB249_213.out, NB214_249.out, NB249_214.out, NB224_249.out, NB249_224.out, NB228_249.out, NB249_228.out, (by repeat (first | (with_reducible first | exact HB.out | apply below_alloc | apply pw_below_drewN | apply below_drew1 | refine below_set ?_ (Aside0.out (by assumption))) | exact HB.out))⟩)
                               rintro gb249 w117 ⟨hS_, h0_, h1_, h2_, h3_, h4_, h5_, h6_, h7_, h8_, h9_, h10_, h11_, h12_, h13_, h14_, h15_, h16_, h17_, h18_, h19_, h20_⟩
                               have n0_ : Aside0 (Kd.R k26 26 w117 w.heap.size (fun k_ => some k_ ≠ (u18 : Value).ownBlock ∧ k_ ≠ gb213 ∧ k_ ≠ gb214 ∧ k_ ≠ gb224 ∧ k_ ≠ gb228 ∧ k_ ≠ gb249) (.slice (some ad244) y241.length co113) y241) := ⟨h0_⟩
                               have n1_ : Aside0 (Kd.R k26 26 w117 w.heap.size (fun k_ => some k_ ≠ (.slice (some ad244) y241.length co113 : Value).ownBlock ∧ k_ ≠ gb213 ∧ k_ ≠ gb214 ∧ k_ ≠ gb224 ∧ k_ ≠ gb228 ∧ k_ ≠ gb249) u18 x18_3) := ⟨h1_⟩
                               have n2_ : Aside0 (w117.heap[gb212]? = some (.cells #[.int .i64 a0_0, .int .i64 a0_1, .slice A0_2 l0_2.length c0_2] 24 (0, 0))) := ⟨h2_⟩
                               have n3_ : Aside0 (w117.heap[gb213]? = some (.cells #[.int .i64 a1_0, .int .i64 a1_1] 26 (0, 0))) := ⟨h3_⟩
                               have n4_ : Aside0 (w117.heap[gb214]? = some (.cells #[.int .i64 a2_0, .int .i64 a2_1] 26 (0, 0))) := ⟨h4_⟩
                               have n5_ : Aside0 (w117.heap[gb224]? = some (.cells #[.int .i64 t221, .int .i64 t222] 26 (0, 0))) := ⟨h5_⟩
                               have n6_ : Aside0 (w117.heap[gb228]? = some (.cells #[.int .i64 t225, .int .i64 t226] 26 (0, 0))) := ⟨h6_⟩
                               have n7_ : Aside0 (w117.heap[gb249]? = some (.cells #[.int .i64 0, .int .i64 0] 26 (0, 0))) := ⟨h7_⟩
                               have n8_ : Aside0 (w.heap.size ≤ gb249) := ⟨h8_⟩
                               have n9_ : Aside0 (w.heap.size ≤ gb249) := ⟨h9_⟩
                               have n10_ : Aside0 (gb212 ≠ gb249) := ⟨h10_⟩
                               have n11_ : Aside0 (gb249 ≠ gb212) := ⟨h11_⟩
                               have n12_ : Aside0 (gb213 ≠ gb249) := ⟨h12_⟩
                               have n13_ : Aside0 (gb249 ≠ gb213) := ⟨h13_⟩
                               have n14_ : Aside0 (gb214 ≠ gb249) := ⟨h14_⟩
                               have n15_ : Aside0 (gb249 ≠ gb214) := ⟨h15_⟩
                               have n16_ : Aside0 (gb224 ≠ gb249) := ⟨h16_⟩
                               have n17_ : Aside0 (gb249 ≠ gb224) := ⟨h17_⟩
                               have n18_ : Aside0 (gb228 ≠ gb249) := ⟨h18_⟩
                               have n19_ : Aside0 (gb249 ≠ gb228) := ⟨h19_⟩
                               have n20_ : Aside0 (Below w.heap.size w w117) := ⟨h20_⟩
                               clear HO_16
                               clear HO_18
                               clear BK212
                               clear BK213
                               clear BK214
                               clear BK224
                               clear BK228
                               clear HB
                               clear h0_ h1_ h2_ h3_ h4_ h5_ h6_ h7_ h8_ h9_ h10_ h11_ h12_ h13_ h14_ h15_ h16_ h17_ h18_ h19_ h20_
                               have HO_16 := n0_
                               have HO_18 := n1_
                               have BK212 := n2_
                               have BK213 := n3_
                               have BK214 := n4_
                               have BK224 := n5_
                               have BK228 := n6_
                               have BK249 := n7_
                               have GW249 := n8_
                               have GE249 := n9_
                               have NB212_249 := n10_
                               have NB249_212 := n11_
                               have NB213_249 := n12_
                               have NB249_213 := n13_
                               have NB214_249 := n14_
                               have NB249_214 := n15_
                               have NB224_249 := n16_
                               have NB249_224 := n17_
                               have NB228_249 := n18_
                               have NB249_228 := n19_
                               have HB := n20_
                               clear n0_ n1_ n2_ n3_ n4_ n5_ n6_ n7_ n8_ n9_ n10_ n11_ n12_ n13_ n14_ n15_ n16_ n17_ n18_ n19_ n20_
                               have hHeld : w117.cell? (ad244.add ((x19_3).toNat * 2)) = some (.int .i64 ((rd_T26 y241 x19_3).f0)) ∧ w117.cell? ⟨(ad244.add ((x19_3).toNat * 2)).block, (ad244.add ((x19_3).toNat * 2)).off + 1, none⟩ = some (.int .i64 ((rd_T26 y241 x19_3).f1)) ∧ w117.cell? (ad244.add (((ji107)).toNat * 2)) = some (.int .i64 ((rd_T26 y241 (ji107)).f0)) ∧ w117.cell? ⟨(ad244.add (((ji107)).toNat * 2)).block, (ad244.add (((ji107)).toNat * 2)).off + 1, none⟩ = some (.int .i64 ((rd_T26 y241 (ji107)).f1)) := hS_
                               refine norm_ (a' := ?_) ?_ ?_
                               rotate_left
                               · simp only [putAll, Act.put, qa_, qz_, qs_]
                                 rfl
                               refine one_ (i := 14) (N := none) #[true, true, true, true, true, true, true, true, true, true, true, true, true, true, true, false] rfl rfl (one_of HT_.out (by kernel_rfl)) (by decide) (fun K hK => ?_)
                               have hs118 : w117.cell? ⟨gb249, 0, none⟩ = some (.int .i64 0) := (blk_cell BK249.out 0).trans rfl
                               have hfs118 := blk_frozen BK249.out 0
                               have hns118_0 := NB212_249.out
                               have hns118_1 := NB213_249.out
                               have hns118_2 := NB214_249.out
                               have hns118_3 := NB224_249.out
                               have hns118_4 := NB228_249.out
                               have hms118_0 := NB249_212.out
                               have hms118_1 := NB249_213.out
                               have hms118_2 := NB249_214.out
                               have hms118_3 := NB249_224.out
                               have hms118_4 := NB249_228.out
                               have hs119 : w117.cell? ⟨gb249, 1, none⟩ = some (.int .i64 0) := (blk_cell BK249.out 1).trans rfl
                               have hfs119 := blk_frozen BK249.out 1
                               have hns119_0 := NB212_249.out
                               have hns119_1 := NB213_249.out
                               have hns119_2 := NB214_249.out
                               have hns119_3 := NB224_249.out
                               have hns119_4 := NB228_249.out
                               have hms119_0 := NB249_212.out
                               have hms119_1 := NB249_213.out
                               have hms119_2 := NB249_214.out
                               have hms119_3 := NB249_224.out
                               have hms119_4 := NB249_228.out
                               refine skip_ (w1 := ?_) (by rfl) rfl ?_ ?_
                               rotate_left
                               · go_simp
                                 rfl
                               refine hK.out _ _ ⟨((cell_far (p := ⟨gb249, _, none⟩) (by first | exact Kd.own_blk (Kd.R_away HO_16.out (fun _ hk => hk.2.2.2.2.2)) | (rw [add_block]; exact Kd.own_blk (Kd.R_away HO_16.out (fun _ hk => hk.2.2.2.2.2))) | (show (Addr.add _ _).block ≠ _; rw [add_block]; exact Kd.own_blk (Kd.R_away HO_16.out (fun _ hk => hk.2.2.2.2.2))) | (dsimp only; exact Kd.own_blk (Kd.R_away HO_16.out (fun _ hk => hk.2.2.2.2.2)))) _).trans (((cell_far (p := ⟨gb249, _, none⟩) (by first | exact Kd.own_blk (Kd.R_away HO_16.out (fun _ hk => hk.2.2.2.2.2)) | (rw [add_block]; exact Kd.own_blk (Kd.R_away HO_16.out (fun _ hk => hk.2.2.2.2.2))) | (show (Addr.add _ _).block ≠ _; rw [add_block]; exact Kd.own_blk (Kd.R_away HO_16.out (fun _ hk => hk.2.2.2.2.2))) | (dsimp only; exact Kd.own_blk (Kd.R_away HO_16.out (fun _ hk => hk.2.2.2.2.2)))) _).trans (hHeld.1)))), ((cell_far (p := ⟨gb249, _, none⟩) (by first | exact Kd.own_blk (Kd.R_away HO_16.out (fun _ hk => hk.2.2.2.2.2)) | (rw [add_block]; exact Kd.own_blk (Kd.R_away HO_16.out (fun _ hk => hk.2.2.2.2.2))) | (show (Addr.add _ _).block ≠ _; rw [add_block]; exact Kd.own_blk (Kd.R_away HO_16.out (fun _ hk => hk.2.2.2.2.2))) | (dsimp only; exact Kd.own_blk (Kd.R_away HO_16.out (fun _ hk => hk.2.2.2.2.2)))) _).trans (((cell_far (p := ⟨gb249, _, none⟩) (by first | exact Kd.own_blk (Kd.R_away HO_16.out (fun _ hk => hk.2.2.2.2.2)) | (rw [add_block]; exact Kd.own_blk (Kd.R_away HO_16.out (fun _ hk => hk.2.2.2.2.2))) | (show (Addr.add _ _).block ≠ _; rw [add_block]; exact Kd.own_blk (Kd.R_away HO_16.out (fun _ hk => hk.2.2.2.2.2))) | (dsimp only; exact Kd.own_blk (Kd.R_away HO_16.out (fun _ hk => hk.2.2.2.2.2)))) _).trans (hHeld.2.1)))), ((cell_far (p := ⟨gb249, _, none⟩) (by first | exact Kd.own_blk (Kd.R_away HO_16.out (fun _ hk => hk.2.2.2.2.2)) | (rw [add_block]; exact Kd.own_blk (Kd.R_away HO_16.out (fun _ hk => hk.2.2.2.2.2))) | (show (Addr.add _ _).block ≠ _; rw [add_block]; exact Kd.own_blk (Kd.R_away HO_16.out (fun _ hk => hk.2.2.2.2.2))) | (dsimp only; exact Kd.own_blk (Kd.R_away HO_16.out (fun _ hk => hk.2.2.2.2.2)))) _).trans (((cell_far (p := ⟨gb249, _, none⟩) (by first | exact Kd.own_blk (Kd.R_away HO_16.out (fun _ hk => hk.2.2.2.2.2)) | (rw [add_block]; exact Kd.own_blk (Kd.R_away HO_16.out (fun _ hk => hk.2.2.2.2.2))) | (show (Addr.add _ _).block ≠ _; rw [add_block]; exact Kd.own_blk (Kd.R_away HO_16.out (fun _ hk => hk.2.2.2.2.2))) | (dsimp only; exact Kd.own_blk (Kd.R_away HO_16.out (fun _ hk => hk.2.2.2.2.2)))) _).trans (hHeld.2.2.1)))), ((cell_far (p := ⟨gb249, _, none⟩) (by first | exact Kd.own_blk (Kd.R_away HO_16.out (fun _ hk => hk.2.2.2.2.2)) | (rw [add_block]; exact Kd.own_blk (Kd.R_away HO_16.out (fun _ hk => hk.2.2.2.2.2))) | (show (Addr.add _ _).block ≠ _; rw [add_block]; exact Kd.own_blk (Kd.R_away HO_16.out (fun _ hk => hk.2.2.2.2.2))) | (dsimp only; exact Kd.own_blk (Kd.R_away HO_16.out (fun _ hk => hk.2.2.2.2.2)))) _).trans (((cell_far (p := ⟨gb249, _, none⟩) (by first | exact Kd.own_blk (Kd.R_away HO_16.out (fun _ hk => hk.2.2.2.2.2)) | (rw [add_block]; exact Kd.own_blk (Kd.R_away HO_16.out (fun _ hk => hk.2.2.2.2.2))) | (show (Addr.add _ _).block ≠ _; rw [add_block]; exact Kd.own_blk (Kd.R_away HO_16.out (fun _ hk => hk.2.2.2.2.2))) | (dsimp only; exact Kd.own_blk (Kd.R_away HO_16.out (fun _ hk => hk.2.2.2.2.2)))) _).trans (hHeld.2.2.2))))⟩ (fun hHeld => ?_)
                               clear hK K
                               refine pure_ (i := 15) (N := some 21) (v := ?_) (a' := ?_) #[true, true, true, true, true, true, true, true, true, true, true, true, true, true, true, true] rfl rfl (any_of HT_.out (by kernel_rfl)) (fun _ _ _ h => h) (Or.inl ⟨by rfl, ?_⟩) ?_ ?_
                               rotate_left
                               · intro w'
                                 go_simp
                                 with_reducible rfl
                               rotate_left
                               · simp only [Act.put, qa_, qz_, qs_, i64_w, i32_w]
                                 rfl
                               refine done_ (done_of HT_.out (by kernel_rfl)) ?_
                               have hnb120 := NB249_212.out
                               have hnc120 := NB212_249.out
                               have hnb121 := NB249_213.out
                               have hnc121 := NB213_249.out
                               have hnb122 := NB249_214.out
                               have hnc122 := NB214_249.out
                               have hnb123 := NB249_224.out
                               have hnc123 := NB224_249.out
                               have hnb124 := NB249_228.out
                               have hnc124 := NB228_249.out
                               have hcz125_0 : w117.cell? ⟨gb249, 0, none⟩ = some (.int .i64 0) := (blk_cell BK249.out 0).trans rfl
                               have hcz125_1 : w117.cell? ⟨gb249, 1, none⟩ = some (.int .i64 0) := (blk_cell BK249.out 1).trans rfl
                               have hfz125_0 := blk_frozen BK249.out 0
                               have hfz125_1 := blk_frozen BK249.out 1
                               try go_wp2_with (first | ((with_reducible refine gate_builtin (b := .append) (xs := #[.tmp 121, .tmp 123]) rfl ?_); at_builtin; refine Kd.R_append k26 (w0 := w) w.heap.size rfl (.tmp 121) (.tmp 123) 33 26 (.agg #[(.int .i64 0), (.int .i64 0)]) 16 rfl Try.underlying33 info26 rfl (by decide) (by omega) u18 x18_3 (⟨t246, t247⟩ : S26) [.int .i64 t246, .int .i64 t247] (fun k_ => some k_ ≠ (.slice (some ad244) y241.length co113 : Value).ownBlock ∧ k_ ≠ gb213 ∧ k_ ≠ gb214 ∧ k_ ≠ gb224 ∧ k_ ≠ gb228 ∧ k_ ≠ gb249) (fun _ => False) rfl (by first | (go_simp; done) | (go_simp; rfl)) ?aP (fun _ hk => hk.elim) ?aF ?aO ?aB ?aS ?aL ?_; (case aP => exact k26_mkM _ _ _ (⟨t246, t247⟩ : S26)); (case aB => exact (by repeat (first | (with_reducible first | exact HB.out | apply below_alloc | apply pw_below_drewN | apply below_drew1 | refine below_set ?_ (Aside0.out (by assumption))) | exact HB.out))); (case aF => exact (fun k_ hk => ⟨Kd.fresh' (Kd.R_lt (qR ((Kd.R_mono (Kd.R_far (p := ⟨gb249, 1, none⟩) (Kd.R_far (p := ⟨gb249, 0, none⟩) (Kd.R_mono HO_16.out (fun k_ hk => (⟨hk, hk.2.2.2.2.2⟩ : _ ∧ k_ ≠ gb249))) (fun _ hk => hk.2) (.int .i64 t246)) (fun _ hk => hk.2) (.int .i64 t247)) (fun _ h_ => h_.1))))) k_ hk, Kd.freshB (g := gb213) (o := .cells #[.int .i64 a1_0, .int .i64 a1_1] 26 (0, 0)) (by (with_reducible repeat (first | refine blk_drewN ?_ _ | refine blk_drew ?_ | refine blk_alloc ?_ _)); refine blk_far ?_ NB213_249.out _; (with_reducible repeat (first | refine blk_drewN ?_ _ | refine blk_drew ?_ | refine blk_alloc ?_ _)); refine blk_far ?_ NB213_249.out _; (with_reducible repeat (first | refine blk_drewN ?_ _ | refine blk_drew ?_ | refine blk_alloc ?_ _)); exact BK213.out) k_ hk, Kd.freshB (g := gb214) (o := .cells #[.int .i64 a2_0, .int .i64 a2_1] 26 (0, 0)) (by (with_reducible repeat (first | refine blk_drewN ?_ _ | refine blk_drew ?_ | refine blk_alloc ?_ _)); refine blk_far ?_ NB214_249.out _; (with_reducible repeat (first | refine blk_drewN ?_ _ | refine blk_drew ?_ | refine blk_alloc ?_ _)); refine blk_far ?_ NB214_249.out _; (with_reducible repeat (first | refine blk_drewN ?_ _ | refine blk_drew ?_ | refine blk_alloc ?_ _)); exact BK214.out) k_ hk, Kd.freshB (g := gb224) (o := .cells #[.int .i64 t221, .int .i64 t222] 26 (0, 0)) (by (with_reducible repeat (first | refine blk_drewN ?_ _ | refine blk_drew ?_ | refine blk_alloc ?_ _)); refine blk_far ?_ NB224_249.out _; (with_reducible repeat (first | refine blk_drewN ?_ _ | refine blk_drew ?_ | refine blk_alloc ?_ _)); refine blk_far ?_ NB224_249.out _; (with_reducible repeat (first | refine blk_drewN ?_ _ | refine blk_drew ?_ | refine blk_alloc ?_ _)); exact BK224.out) k_ hk, Kd.freshB (g := gb228) (o := .cells #[.int .i64 t225, .int .i64 t226] 26 (0, 0)) (by (with_reducible repeat (first | refine blk_drewN ?_ _ | refine blk_drew ?_ | refine blk_alloc ?_ _)); refine blk_far ?_ NB228_249.out _; (with_reducible repeat (first | refine blk_drewN ?_ _ | refine blk_drew ?_ | refine blk_alloc ?_ _)); refine blk_far ?_ NB228_249.out _; (with_reducible repeat (first | refine blk_drewN ?_ _ | refine blk_drew ?_ | refine blk_alloc ?_ _)); exact BK228.out) k_ hk, Kd.freshB (g := gb249) (o := .cells #[.int .i64 t246, .int .i64 t247] 26 (0, 0)) (by (with_reducible repeat (first | refine blk_drewN ?_ _ | refine blk_drew ?_ | refine blk_alloc ?_ _)); refine blk_put (cs := #[.int .i64 t246, .int .i64 0]) ?_ 1 _ rfl; (with_reducible repeat (first | refine blk_drewN ?_ _ | refine blk_drew ?_ | refine blk_alloc ?_ _)); refine blk_put (cs := #[.int .i64 0, .int .i64 0]) ?_ 0 _ rfl; (with_reducible repeat (first | refine blk_drewN ?_ _ | refine blk_drew ?_ | refine blk_alloc ?_ _)); exact BK249.out) k_ hk⟩)); (case aO => exact (qR (Kd.R_mono (Kd.R_far (p := ⟨gb249, 1, none⟩) (Kd.R_far (p := ⟨gb249, 0, none⟩) (Kd.R_mono HO_18.out (fun k_ hk => (⟨hk, hk.2.2.2.2.2⟩ : _ ∧ k_ ≠ gb249))) (fun _ hk => hk.2) (.int .i64 t246)) (fun _ hk => hk.2) (.int .i64 t247)) (fun _ hk => ⟨hk.1.1, ⟨hk.1.2.1, ⟨hk.1.2.2.1, ⟨hk.1.2.2.2.1, ⟨hk.1.2.2.2.2.1, hk.1.2.2.2.2.2⟩⟩⟩⟩⟩)))); (case aS => exact (below_size (by repeat (first | (with_reducible first | exact HB.out | apply below_alloc | apply pw_below_drewN | apply below_drew1 | refine below_set ?_ (Aside0.out (by assumption))) | exact HB.out)))); (case aL => have := LMc112.out; omega); intro v251 w126 ho hb hg hat; rw [← Ny250.out] at ho; have n0_ := Aside0.mk (Kd.R_after (ok := (fun k_ => k_ ≠ gb213 ∧ k_ ≠ gb214 ∧ k_ ≠ gb224 ∧ k_ ≠ gb228 ∧ k_ ≠ gb249)) (qR (Kd.R_mono (Kd.R_far (p := ⟨gb249, 1, none⟩) (Kd.R_far (p := ⟨gb249, 0, none⟩) (Kd.R_mono HO_16.out (fun k_ hk => (⟨hk, hk.2.2.2.2.2⟩ : _ ∧ k_ ≠ gb249))) (fun _ hk => hk.2) (.int .i64 t246)) (fun _ hk => hk.2) (.int .i64 t247)) (fun _ hk => ⟨⟨hk.1.2.1, ⟨hk.1.2.2.1, ⟨hk.1.2.2.2.1, ⟨hk.1.2.2.2.2.1, hk.1.2.2.2.2.2⟩⟩⟩⟩, hk.1.1⟩))) hg hat); have n1_ := Aside0.mk (blk_grown (g := gb212) (o := .cells #[.int .i64 a0_0, .int .i64 a0_1, .slice A0_2 l0_2.length c0_2] 24 (0, 0)) (by (with_reducible repeat (first | refine blk_drewN ?_ _ | refine blk_drew ?_ | refine blk_alloc ?_ _)); refine blk_far ?_ NB212_249.out _; (with_reducible repeat (first | refine blk_drewN ?_ _ | refine blk_drew ?_ | refine blk_alloc ?_ _)); refine blk_far ?_ NB212_249.out _; (with_reducible repeat (first | refine blk_drewN ?_ _ | refine blk_drew ?_ | refine blk_alloc ?_ _)); exact BK212.out) hg (Kd.R_ne HO_18.out BK212.out (by decide))); have n2_ := Aside0.mk (blk_grown (g := gb213) (o := .cells #[.int .i64 a1_0, .int .i64 a1_1] 26 (0, 0)) (by (with_reducible repeat (first | refine blk_drewN ?_ _ | refine blk_drew ?_ | refine blk_alloc ?_ _)); refine blk_far ?_ NB213_249.out _; (with_reducible repeat (first | refine blk_drewN ?_ _ | refine blk_drew ?_ | refine blk_alloc ?_ _)); refine blk_far ?_ NB213_249.out _; (with_reducible repeat (first | refine blk_drewN ?_ _ | refine blk_drew ?_ | refine blk_alloc ?_ _)); exact BK213.out) hg (Kd.R_away HO_18.out (fun _ hk => hk.2.1))); have n3_ := Aside0.mk (blk_grown (g := gb214) (o := .cells #[.int .i64 a2_0, .int .i64 a2_1] 26 (0, 0)) (by (with_reducible repeat (first | refine blk_drewN ?_ _ | refine blk_drew ?_ | refine blk_alloc ?_ _)); refine blk_far ?_ NB214_249.out _; (with_reducible repeat (first | refine blk_drewN ?_ _ | refine blk_drew ?_ | refine blk_alloc ?_ _)); refine blk_far ?_ NB214_249.out _; (with_reducible repeat (first | refine blk_drewN ?_ _ | refine blk_drew ?_ | refine blk_alloc ?_ _)); exact BK214.out) hg (Kd.R_away HO_18.out (fun _ hk => hk.2.2.1))); have n4_ := Aside0.mk (blk_grown (g := gb224) (o := .cells #[.int .i64 t221, .int .i64 t222] 26 (0, 0)) (by (with_reducible repeat (first | refine blk_drewN ?_ _ | refine blk_drew ?_ | refine blk_alloc ?_ _)); refine blk_far ?_ NB224_249.out _; (with_reducible repeat (first | refine blk_drewN ?_ _ | refine blk_drew ?_ | refine blk_alloc ?_ _)); refine blk_far ?_ NB224_249.out _; (with_reducible repeat (first | refine blk_drewN ?_ _ | refine blk_drew ?_ | refine blk_alloc ?_ _)); exact BK224.out) hg (Kd.R_away HO_18.out (fun _ hk => hk.2.2.2.1))); have n5_ := Aside0.mk (blk_grown (g := gb228) (o := .cells #[.int .i64 t225, .int .i64 t226] 26 (0, 0)) (by (with_reducible repeat (first | refine blk_drewN ?_ _ | refine blk_drew ?_ | refine blk_alloc ?_ _)); refine blk_far ?_ NB228_249.out _; (with_reducible repeat (first | refine blk_drewN ?_ _ | refine blk_drew ?_ | refine blk_alloc ?_ _)); refine blk_far ?_ NB228_249.out _; (with_reducible repeat (first | refine blk_drewN ?_ _ | refine blk_drew ?_ | refine blk_alloc ?_ _)); exact BK228.out) hg (Kd.R_away HO_18.out (fun _ hk => hk.2.2.2.2.1))); have n6_ := Aside0.mk (blk_grown (g := gb249) (o := .cells #[.int .i64 t246, .int .i64 t247] 26 (0, 0)) (by (with_reducible repeat (first | refine blk_drewN ?_ _ | refine blk_drew ?_ | refine blk_alloc ?_ _)); refine blk_put (cs := #[.int .i64 t246, .int .i64 0]) ?_ 1 _ rfl; (with_reducible repeat (first | refine blk_drewN ?_ _ | refine blk_drew ?_ | refine blk_alloc ?_ _)); refine blk_put (cs := #[.int .i64 0, .int .i64 0]) ?_ 0 _ rfl; (with_reducible repeat (first | refine blk_drewN ?_ _ | refine blk_drew ?_ | refine blk_alloc ?_ _)); exact BK249.out) hg (Kd.R_away HO_18.out (fun _ hk => hk.2.2.2.2.2))); have n7_ := Aside0.mk (hb); have n8_ := Aside0.mk (ho); clear HO_16; clear BK212; clear BK213; clear BK214; clear BK224; clear BK228; clear BK249; clear HB; clear HO_18; have HO_16 := n0_; have BK212 := n1_; have BK213 := n2_; have BK214 := n3_; have BK224 := n4_; have BK228 := n5_; have BK249 := n6_; have HB := n7_; have HO252 := n8_; clear n0_ n1_ n2_ n3_ n4_ n5_ n6_ n7_ n8_; clear ho hb hg hat))
                               go_roundg k3
                               case measure => have := HJ7.out; have := HK2.out; have := HK3.out; omega
                               case rel => exact ⟨(y250), (wrap64 (x19_3 + 1)), (by first | rfl | (simp; done) | (simp [*]; done)), H', ⟨by have := HJ7.out; have := HK2.out; have := HK3.out; omega⟩, ⟨by (with_reducible repeat (first | apply Kd.R_alloc | apply Kd.R_drewN | apply Kd.R_drew)); exact Kd.R_mono HO_16.out (fun _ hk => ⟨hk.2, ⟨hk.1.1, ⟨hk.1.2.1, ⟨hk.1.2.2.1, hk.1.2.2.2.1⟩⟩⟩⟩)⟩, ⟨by (with_reducible repeat (first | apply Kd.R_alloc | apply Kd.R_drewN | apply Kd.R_drew)); exact Kd.R_mono HO252.out (fun _ hk => ⟨hk.1, ⟨hk.2.1, ⟨hk.2.2.1, ⟨hk.2.2.2.1, hk.2.2.2.2.1⟩⟩⟩⟩)⟩, ⟨by (with_reducible repeat (first | refine blk_drewN ?_ _ | refine blk_drew ?_ | refine blk_alloc ?_ _)); exact BK212.out⟩, ⟨by (with_reducible repeat (first | refine blk_drewN ?_ _ | refine blk_drew ?_ | refine blk_alloc ?_ _)); exact BK213.out⟩, ⟨by (with_reducible repeat (first | refine blk_drewN ?_ _ | refine blk_drew ?_ | refine blk_alloc ?_ _)); exact BK214.out⟩, ⟨by (with_reducible repeat (first | refine blk_drewN ?_ _ | refine blk_drew ?_ | refine blk_alloc ?_ _)); exact BK224.out⟩, ⟨by (with_reducible repeat (first | refine blk_drewN ?_ _ | refine blk_drew ?_ | refine blk_alloc ?_ _)); exact BK228.out⟩, ⟨by repeat (first | (with_reducible first | exact HB.out | apply below_alloc | apply pw_below_drewN | apply below_drew1 | refine below_set ?_ (Aside0.out (by assumption))) | exact HB.out)⟩⟩
                             · rw [if_neg c112] at H
                               exact absurd H (by simp)
                           · rw [if_neg c111] at H
                             have c111b0 : (t248 == 0) = false := beq_eq_false_iff_ne.mpr c111
                             have c111b1 : (t248 != 0) = true := bne_iff_ne.mpr c111
                             simp only [Option.some.injEq, Prod.mk.injEq] at H
                             obtain ⟨rfl, rfl⟩ := H
                             obtain ⟨Ao127, co127, eo127⟩ := Kd.R_slice HO_16.out
                             subst eo127
                             try go_wp2
                             have n0_ := Aside0.mk (Kd.R_drew HO_16.out)
                             have n1_ := Aside0.mk (Kd.R_drew HO_18.out)
                             have n2_ := Aside0.mk (blk_drew BK212.out)
                             have n3_ := Aside0.mk (blk_drew BK213.out)
                             have n4_ := Aside0.mk (blk_drew BK214.out)
                             have n5_ := Aside0.mk (blk_drew BK224.out)
                             have n6_ := Aside0.mk (blk_drew BK228.out)
                             have n7_ := Aside0.mk (below_drew1 HB.out)
                             clear HO_16
                             clear HO_18
                             clear BK212
                             clear BK213
                             clear BK214
                             clear BK224
                             clear BK228
                             clear HB
                             have HO_16 := n0_
                             have HO_18 := n1_
                             have BK212 := n2_
                             have BK213 := n3_
                             have BK214 := n4_
                             have BK224 := n5_
                             have BK228 := n6_
                             have HB := n7_
                             clear n0_ n1_ n2_ n3_ n4_ n5_ n6_ n7_
                             have p244 : 0 ≤ (x19_3 : Int) := of_decide_eq_true (by first | (with_reducible assumption) | assumption)
                             have q244 : x19_3 < (y241.length : Int) := of_decide_eq_true (by first | (with_reducible assumption) | assumption)
                             obtain ⟨ad244, e244, hx244_0, hx244_1⟩ := at_T26 (Kd.R_reads' HO_16.out).2.2 x19_3 p244 q244
                             cases e244
                             replace p244 := eq_true p244
                             replace q244 := eq_true q244
                             have p245 : 0 ≤ ((ji107) : Int) := of_decide_eq_true (by first | (with_reducible assumption) | assumption)
                             have q245 : (ji107) < (y241.length : Int) := of_decide_eq_true (by first | (with_reducible assumption) | assumption)
                             obtain ⟨ad245, e245, hx245_0, hx245_1⟩ := at_T26 (Kd.R_reads' HO_16.out).2.2 (ji107) p245 q245
                             obtain rfl : ad244 = ad245 := (by injection e245)
                             replace p245 := eq_true p245
                             replace q245 := eq_true q245
                             refine start_ (n := 16) (S := fun w' => w'.cell? (ad244.add ((x19_3).toNat * 2)) = some (.int .i64 ((rd_T26 y241 x19_3).f0)) ∧ w'.cell? ⟨(ad244.add ((x19_3).toNat * 2)).block, (ad244.add ((x19_3).toNat * 2)).off + 1, none⟩ = some (.int .i64 ((rd_T26 y241 x19_3).f1)) ∧ w'.cell? (ad244.add (((ji107)).toNat * 2)) = some (.int .i64 ((rd_T26 y241 (ji107)).f0)) ∧ w'.cell? ⟨(ad244.add (((ji107)).toNat * 2)).block, (ad244.add (((ji107)).toNat * 2)).off + 1, none⟩ = some (.int .i64 ((rd_T26 y241 (ji107)).f1))) (ds := []) #[false, false, false, false, false, false, false, false, false, false, false, false, false, false, false, false] (by kernel_rfl) rfl rfl ⟨hx244_0, hx244_1, hx245_0, hx245_1⟩ (fun hHeld => ?_); refine with_tabW partitaref05_Cut.tab25 partitaref05_Cut.bits25 (fun HT_ HW_ => ?_)
                             generalize wr.drew = w128 at HO_16 HO_18 BK212 BK213 BK214 BK224 BK228 HB hx244_0 hx244_1 hx245_0 hx245_1 hHeld ⊢
                             refine pure_ (i := 0) (N := some 106) (v := ?_) (a' := ?_) #[true, false, false, false, false, false, false, false, false, false, false, false, false, false, false, false] rfl rfl (any_of HT_.out (by kernel_rfl)) (fun _ _ _ h => h) (Or.inl ⟨by rfl, ?_⟩) ?_ ?_
                             rotate_left
                             · intro w'
                               go_simp
                               with_reducible rfl
                             rotate_left
                             · simp only [Act.put, qa_, qz_, qs_, i64_w, i32_w]
                               rfl
                             refine pure_ (i := 1) (N := some 107) (v := ?_) (a' := ?_) #[true, true, false, false, false, false, false, false, false, false, false, false, false, false, false, false] rfl rfl (any_of HT_.out (by kernel_rfl)) (fun _ _ _ h => h) (Or.inl ⟨by rfl, ?_⟩) ?_ ?_
                             rotate_left
                             · intro w'
                               go_simp
                               with_reducible rfl
                             rotate_left
                             · simp only [Act.put, qa_, qz_, qs_, i64_w, i32_w]
                               rfl
                             refine pure_ (i := 2) (N := some 108) (v := ?_) (a' := ?_) #[true, true, true, false, false, false, false, false, false, false, false, false, false, false, false, false] rfl rfl (any_of HT_.out (by kernel_rfl)) (fun _ _ _ h => h) (Or.inl ⟨by rfl, ?_⟩) ?_ ?_
                             rotate_left
                             · intro w'
                               go_simp
                               with_reducible rfl
                             rotate_left
                             · simp only [Act.put, qa_, qz_, qs_, i64_w, i32_w]
                               rfl
                             refine pure_ (i := 4) (N := some 110) (v := ?_) (a' := ?_) #[true, true, true, false, true, false, false, false, false, false, false, false, false, false, false, false] rfl rfl (any_of HT_.out (by kernel_rfl)) (fun _ _ _ h => h) (Or.inl ⟨by rfl, ?_⟩) ?_ ?_
                             rotate_left
                             · intro w'
                               go_simp
                               with_reducible rfl
                             rotate_left
                             · simp only [Act.put, qa_, qz_, qs_, i64_w, i32_w]
                               rfl
                             refine pure_ (i := 5) (N := some 111) (v := ?_) (a' := ?_) #[true, true, true, false, true, true, false, false, false, false, false, false, false, false, false, false] rfl rfl (any_of HT_.out (by kernel_rfl)) (fun _ _ _ h => h) (Or.inl ⟨by rfl, ?_⟩) ?_ ?_
                             rotate_left
                             · intro w'
                               go_simp
                               with_reducible rfl
                             rotate_left
                             · simp only [Act.put, qa_, qz_, qs_, i64_w, i32_w]
                               rfl
                             refine pure_ (i := 6) (N := some 112) (v := ?_) (a' := ?_) #[true, true, true, false, true, true, true, false, false, false, false, false, false, false, false, false] rfl rfl (any_of HT_.out (by kernel_rfl)) (fun _ _ _ h => h) (Or.inl ⟨by rfl, ?_⟩) ?_ ?_
                             rotate_left
                             · intro w'
                               go_simp
                               with_reducible rfl
                             rotate_left
                             · simp only [Act.put, qa_, qz_, qs_, i64_w, i32_w]
                               rfl
                             refine pure_ (i := 7) (N := some 113) (v := ?_) (a' := ?_) #[true, true, true, false, true, true, true, true, false, false, false, false, false, false, false, false] rfl rfl (any_of HT_.out (by kernel_rfl)) (fun _ _ _ h => h) (Or.inl ⟨by rfl, ?_⟩) ?_ ?_
                             rotate_left
                             · intro w'
                               go_simp
                               with_reducible rfl
                             rotate_left
                             · simp only [Act.put, qa_, qz_, qs_, i64_w, i32_w]
                               rfl
                             refine take_ (i := 3) (N := some 109) (v := ?_) (a' := ?_) #[true, true, true, true, true, true, true, true, false, false, false, false, false, false, false, false] rfl rfl (take_ofW HT_.out HW_.out (by kernel_rfl)) (fun _ _ _ h => h) (Or.inl ⟨by rfl, ?_⟩) hHeld ?_ ?_
                             rotate_left
                             · rintro w' ⟨s0, s1, s2, s3⟩
                               go_simp
                               with_reducible rfl
                             rotate_left
                             · simp only [Act.put, qa_, qz_, qs_, i64_w, i32_w]
                               rfl
                             refine take_ (i := 8) (N := some 114) (v := ?_) (a' := ?_) #[true, true, true, true, true, true, true, true, true, false, false, false, false, false, false, false] rfl rfl (take_ofW HT_.out HW_.out (by kernel_rfl)) (fun _ _ _ h => h) (Or.inl ⟨by rfl, ?_⟩) hHeld ?_ ?_
                             rotate_left
                             · rintro w' ⟨s0, s1, s2, s3⟩
                               go_simp
                               with_reducible rfl
                             rotate_left
                             · simp only [Act.put, qa_, qz_, qs_, i64_w, i32_w]
                               rfl
                             refine join_ (σ := Nat) 2 #[true, true, true, true, true, true, true, true, true, true, true, true, true, true, false, false] (fun s_ => [(115, .tuple #[.agg #[.int .i64 t246, .int .i64 t247], .int .i64 t248]), (20, .pointer (some ⟨s_, 0, none⟩)), (105, .tuple #[.agg #[.int .i64 t246, .int .i64 t247], .int .i64 t248]), (116, .agg #[.int .i64 t246, .int .i64 t247]), (117, .int .i64 t248)]) (fun s_ w' => (w'.cell? (ad244.add ((x19_3).toNat * 2)) = some (.int .i64 ((rd_T26 y241 x19_3).f0)) ∧ w'.cell? ⟨(ad244.add ((x19_3).toNat * 2)).block, (ad244.add ((x19_3).toNat * 2)).off + 1, none⟩ = some (.int .i64 ((rd_T26 y241 x19_3).f1)) ∧ w'.cell? (ad244.add (((ji107)).toNat * 2)) = some (.int .i64 ((rd_T26 y241 (ji107)).f0)) ∧ w'.cell? ⟨(ad244.add (((ji107)).toNat * 2)).block, (ad244.add (((ji107)).toNat * 2)).off + 1, none⟩ = some (.int .i64 ((rd_T26 y241 (ji107)).f1))) ∧ (Kd.R k26 26 w' w.heap.size (fun k_ => some k_ ≠ (u18 : Value).ownBlock ∧ k_ ≠ gb213 ∧ k_ ≠ gb214 ∧ k_ ≠ gb224 ∧ k_ ≠ gb228 ∧ k_ ≠ s_) (.slice (some ad244) y241.length co127) y241) ∧ (Kd.R k26 26 w' w.heap.size (fun k_ => some k_ ≠ (.slice (some ad244) y241.length co127 : Value).ownBlock ∧ k_ ≠ gb213 ∧ k_ ≠ gb214 ∧ k_ ≠ gb224 ∧ k_ ≠ gb228 ∧ k_ ≠ s_) u18 x18_3) ∧ (w'.heap[gb212]? = some (.cells #[.int .i64 a0_0, .int .i64 a0_1, .slice A0_2 l0_2.length c0_2] 24 (0, 0))) ∧ (w'.heap[gb213]? = some (.cells #[.int .i64 a1_0, .int .i64 a1_1] 26 (0, 0))) ∧ (w'.heap[gb214]? = some (.cells #[.int .i64 a2_0, .int .i64 a2_1] 26 (0, 0))) ∧ (w'.heap[gb224]? = some (.cells #[.int .i64 t221, .int .i64 t222] 26 (0, 0))) ∧ (w'.heap[gb228]? = some (.cells #[.int .i64 t225, .int .i64 t226] 26 (0, 0))) ∧ (w'.heap[s_]? = some (.cells #[.int .i64 0, .int .i64 0] 26 (0, 0))) ∧ (w.heap.size ≤ s_) ∧ (w.heap.size ≤ s_) ∧ (gb212 ≠ s_) ∧ (s_ ≠ gb212) ∧ (gb213 ≠ s_) ∧ (s_ ≠ gb213) ∧ (gb214 ≠ s_) ∧ (s_ ≠ gb214) ∧ (gb224 ≠ s_) ∧ (s_ ≠ gb224) ∧ (gb228 ≠ s_) ∧ (s_ ≠ gb228) ∧ (Below w.heap.size w w')) ?_ ?_
                             rotate_left
                             · intro hCont
                               refine two_ (i := 9) (j := 13) (Ni := some 115) (Nj := some 20) #[true, true, true, true, true, true, true, true, true, true, false, false, false, false, false, false] #[true, true, true, true, true, true, true, true, true, false, false, false, false, true, false, false] rfl rfl rfl rfl (two_of HT_.out (by kernel_rfl)) (by decide) (by decide) (fun K hK => ?_) (fun K hK => ?_)
                               · skip
                                 refine goes_ Try.func43 (by kernel_rfl) rfl #[.agg #[.int .i64 ((rd_T26 y241 x19_3).f0), .int .i64 ((rd_T26 y241 x19_3).f1)], .agg #[.int .i64 ((rd_T26 y241 (ji107)).f0), .int .i64 ((rd_T26 y241 (ji107)).f1)]] (by rfl) rfl rfl (by (try simp only [List.map_toArray, List.map_cons, List.map_nil]); first | done | (simp only [hji107]; rfl) | rfl | (simp only [List.length_drop, List.length_take]; rfl)) ?_
                                 with_reducible refine (partitaref01_Sub.calls k3 ((rd_T26 y241 x19_3).f0) ((rd_T26 y241 x19_3).f1) ((rd_T26 y241 (ji107)).f0) ((rd_T26 y241 (ji107)).f1) t246 t247 t248 _ A110.out).mono ?_
                                 rintro e w129 ⟨rfl, hb⟩
                                 have HS0_ := (hb.cell (World.block_lt_of_cell? _ _ (hHeld.1))).trans (hHeld.1)
                                 have HS1_ := (hb.cell (World.block_lt_of_cell? _ _ (hHeld.2.1))).trans (hHeld.2.1)
                                 have HS2_ := (hb.cell (World.block_lt_of_cell? _ _ (hHeld.2.2.1))).trans (hHeld.2.2.1)
                                 have HS3_ := (hb.cell (World.block_lt_of_cell? _ _ (hHeld.2.2.2))).trans (hHeld.2.2.2)
                                 refine ⟨_, rfl, ?_⟩
                                 have n0_ := Aside0.mk (Kd.R_below (qR HO_16.out) hb)
                                 have n1_ := Aside0.mk (Kd.R_below (qR HO_18.out) hb)
                                 have n2_ := Aside0.mk (blk_below (qB BK212.out) hb)
                                 have n3_ := Aside0.mk (blk_below (qB BK213.out) hb)
                                 have n4_ := Aside0.mk (blk_below (qB BK214.out) hb)
                                 have n5_ := Aside0.mk (blk_below (qB BK224.out) hb)
                                 have n6_ := Aside0.mk (blk_below (qB BK228.out) hb)
                                 have n7_ := Aside0.mk (below_step (by repeat (first | (with_reducible first | exact HB.out | apply below_alloc | apply pw_below_drewN | apply below_drew1 | refine below_set ?_ (Aside0.out (by assumption))) | exact HB.out)) hb)
                                 clear HO_16
                                 clear HO_18
                                 clear BK212
                                 clear BK213
                                 clear BK214
                                 clear BK224
                                 clear BK228
                                 clear HB
                                 have HO_16 := n0_
                                 have HO_18 := n1_
                                 have BK212 := n2_
                                 have BK213 := n3_
                                 have BK214 := n4_
                                 have BK224 := n5_
                                 have BK228 := n6_
                                 have HB := n7_
                                 clear n0_ n1_ n2_ n3_ n4_ n5_ n6_ n7_
                                 (try clear hb)
                                 (try clear hb2)
                                 (try clear hk)
                                 (try clear hi)
                                 refine hK.out _ _ ⟨HS0_, HS1_, HS2_, HS3_⟩ (fun hHeld => ?_)
                                 clear hK K
                                 refine norm_ (a' := ?_) ?_ ?_
                                 rotate_left
                                 · show Act.put _ (some 115) _ = _
                                   simp only [Act.put, qa_, qz_, qs_, i64_w, i32_w]
                                   rfl
                                 refine pure_ (i := 10) (N := some 105) (v := ?_) (a' := ?_) #[true, true, true, true, true, true, true, true, true, true, true, false, false, false, false, false] rfl rfl (any_of HT_.out (by kernel_rfl)) (fun _ _ _ h => h) (Or.inl ⟨by rfl, ?_⟩) ?_ ?_
                                 rotate_left
                                 · intro w'
                                   go_simp
                                   with_reducible rfl
                                 rotate_left
                                 · simp only [Act.put, qa_, qz_, qs_, i64_w, i32_w]
                                   rfl
                                 refine pure_ (i := 11) (N := some 116) (v := ?_) (a' := ?_) #[true, true, true, true, true, true, true, true, true, true, true, true, false, false, false, false] rfl rfl (any_of HT_.out (by kernel_rfl)) (fun _ _ _ h => h) (Or.inl ⟨by rfl, ?_⟩) ?_ ?_
                                 rotate_left
                                 · intro w'
                                   go_simp
                                   with_reducible rfl
                                 rotate_left
                                 · simp only [Act.put, qa_, qz_, qs_, i64_w, i32_w]
                                   rfl
                                 refine pure_ (i := 12) (N := some 117) (v := ?_) (a' := ?_) #[true, true, true, true, true, true, true, true, true, true, true, true, true, false, false, false] rfl rfl (any_of HT_.out (by kernel_rfl)) (fun _ _ _ h => h) (Or.inl ⟨by rfl, ?_⟩) ?_ ?_
                                 rotate_left
                                 · intro w'
                                   go_simp
                                   with_reducible rfl
                                 rotate_left
                                 · simp only [Act.put, qa_, qz_, qs_, i64_w, i32_w]
                                   rfl
                                 refine one_ (i := 13) (N := some 20) #[true, true, true, true, true, true, true, true, true, true, true, true, true, true, false, false] rfl rfl (one_of HT_.out (by kernel_rfl)) (by decide) (fun K hK => ?_)
                                 refine box_step ?hg (N := 20) ?hd (cs := #[.int .i64 0, .int .i64 0]) (t := 26) ?hr ?_; (case hd => rfl); (case hg => rfl); (case hr => first | (go_simp; done) | (go_simp; rfl))
                                 intro gb249 hg w130 hbox hb
                                 have HS0_ := (hb.cell (World.block_lt_of_cell? _ _ (hHeld.1))).trans (hHeld.1)
                                 have HS1_ := (hb.cell (World.block_lt_of_cell? _ _ (hHeld.2.1))).trans (hHeld.2.1)
                                 have HS2_ := (hb.cell (World.block_lt_of_cell? _ _ (hHeld.2.2.1))).trans (hHeld.2.2.1)
                                 have HS3_ := (hb.cell (World.block_lt_of_cell? _ _ (hHeld.2.2.2))).trans (hHeld.2.2.2)
                                 have n0_ := Aside0.mk (Kd.R_below (Kd.R_elderB (qR HO_16.out) gb249 (Nat.le_of_eq hg.symm)) hb)
                                 have n1_ := Aside0.mk (Kd.R_below (Kd.R_elderB (qR HO_18.out) gb249 (Nat.le_of_eq hg.symm)) hb)
                                 have n2_ := Aside0.mk (blk_below (qB BK212.out) hb)
                                 have n3_ := Aside0.mk (blk_below (qB BK213.out) hb)
                                 have n4_ := Aside0.mk (blk_below (qB BK214.out) hb)
                                 have n5_ := Aside0.mk (blk_below (qB BK224.out) hb)
                                 have n6_ := Aside0.mk (blk_below (qB BK228.out) hb)
                                 have n7_ := Aside0.mk (below_step (by repeat (first | (with_reducible first | exact HB.out | apply below_alloc | apply pw_below_drewN | apply below_drew1 | refine below_set ?_ (Aside0.out (by assumption))) | exact HB.out)) hb)
                                 have n8_ := Aside0.mk (hbox)
                                 have n9_ := Aside0.mk ((by rw [hg]; exact (below_size (by repeat (first | (with_reducible first | exact HB.out | apply below_alloc | apply pw_below_drewN | apply below_drew1 | refine below_set ?_ (Aside0.out (by assumption))) | exact HB.out))) : w.heap.size ≤ gb249))
                                 have n10_ := Aside0.mk ((by rw [hg]; exact (below_size (by repeat (first | (with_reducible first | exact HB.out | apply below_alloc | apply pw_below_drewN | apply below_drew1 | refine below_set ?_ (Aside0.out (by assumption))) | exact HB.out))) : w.heap.size ≤ gb249))
                                 have n11_ := Aside0.mk ((by rw [hg]; exact Nat.ne_of_lt (blk_lt (qB BK212.out)) : gb212 ≠ gb249))
                                 have n12_ := Aside0.mk ((by rw [hg]; exact Nat.ne_of_gt (blk_lt (qB BK212.out)) : gb249 ≠ gb212))
                                 have n13_ := Aside0.mk ((by rw [hg]; exact Nat.ne_of_lt (blk_lt (qB BK213.out)) : gb213 ≠ gb249))
                                 have n14_ := Aside0.mk ((by rw [hg]; exact Nat.ne_of_gt (blk_lt (qB BK213.out)) : gb249 ≠ gb213))
                                 have n15_ := Aside0.mk ((by rw [hg]; exact Nat.ne_of_lt (blk_lt (qB BK214.out)) : gb214 ≠ gb249))
                                 have n16_ := Aside0.mk ((by rw [hg]; exact Nat.ne_of_gt (blk_lt (qB BK214.out)) : gb249 ≠ gb214))
                                 have n17_ := Aside0.mk ((by rw [hg]; exact Nat.ne_of_lt (blk_lt (qB BK224.out)) : gb224 ≠ gb249))
                                 have n18_ := Aside0.mk ((by rw [hg]; exact Nat.ne_of_gt (blk_lt (qB BK224.out)) : gb249 ≠ gb224))
                                 have n19_ := Aside0.mk ((by rw [hg]; exact Nat.ne_of_lt (blk_lt (qB BK228.out)) : gb228 ≠ gb249))
                                 have n20_ := Aside0.mk ((by rw [hg]; exact Nat.ne_of_gt (blk_lt (qB BK228.out)) : gb249 ≠ gb228))
                                 clear HO_16
                                 clear HO_18
                                 clear BK212
                                 clear BK213
                                 clear BK214
                                 clear BK224
                                 clear BK228
                                 clear HB
                                 have HO_16 := n0_
                                 have HO_18 := n1_
                                 have BK212 := n2_
                                 have BK213 := n3_
                                 have BK214 := n4_
                                 have BK224 := n5_
                                 have BK228 := n6_
                                 have HB := n7_
                                 have BK249 := n8_
                                 have GW249 := n9_
                                 have GE249 := n10_
                                 have NB212_249 := n11_
                                 have NB249_212 := n12_
                                 have NB213_249 := n13_
                                 have NB249_213 := n14_
                                 have NB214_249 := n15_
                                 have NB249_214 := n16_
                                 have NB224_249 := n17_
                                 have NB249_224 := n18_
                                 have NB228_249 := n19_
                                 have NB249_228 := n20_
                                 clear n0_ n1_ n2_ n3_ n4_ n5_ n6_ n7_ n8_ n9_ n10_ n11_ n12_ n13_ n14_ n15_ n16_ n17_ n18_ n19_ n20_
                                 clear hb hbox hg
                                 refine hK.out _ _ ⟨HS0_, HS1_, HS2_, HS3_⟩ (fun hHeld => ?_)
                                 clear hK K
                                 refine norm_ (a' := ?_) ?_ ?_
                                 rotate_left
                                 · show Act.put _ (some 20) _ = _
                                   simp only [Act.put, qa_, qz_, qs_, i64_w, i32_w]
                                   rfl
                                 exact norm_ (by simp only [putAll, Act.put, qa_, qz_, qs_]) (hCont (gb249) _ ⟨hHeld, (qR (Kd.R_mono HO_16.out (fun _ hk => ⟨hk.1.1, ⟨hk.1.2.1, ⟨hk.1.2.2.1, ⟨hk.1.2.2.2.1, ⟨hk.1.2.2.2.2, hk.2⟩⟩⟩⟩⟩))), (qR (Kd.R_mono HO_18.out (fun _ hk => ⟨hk.1.1, ⟨hk.1.2.1, ⟨hk.1.2.2.1, ⟨hk.1.2.2.2.1, ⟨hk.1.2.2.2.2, hk.2⟩⟩⟩⟩⟩))), (qB BK212.out), (qB BK213.out), (qB BK214.out), (qB BK224.out), (qB BK228.out), (qB BK249.out), GW249.out, GE249.out, NB212_249.out, NB249_212.out, NB213_249.out, NB249_213.out, NB214_249.out, NB249_214.out, NB224_249.out, NB249_224.out, NB228_249.out, NB249_228.out, (by repeat (first | (with_reducible first | exact HB.out | apply below_alloc | apply pw_below_drewN | apply below_drew1 | refine below_set ?_ (Aside0.out (by assumption))) | exact HB.out))⟩)
                               · skip
                                 refine box_step ?hg (N := 20) ?hd (cs := #[.int .i64 0, .int .i64 0]) (t := 26) ?hr ?_; (case hd => rfl); (case hg => rfl); (case hr => first | (go_simp; done) | (go_simp; rfl))
                                 intro gb249 hg w129 hbox hb
                                 have HS0_ := (hb.cell (World.block_lt_of_cell? _ _ (hHeld.1))).trans (hHeld.1)
                                 have HS1_ := (hb.cell (World.block_lt_of_cell? _ _ (hHeld.2.1))).trans (hHeld.2.1)
                                 have HS2_ := (hb.cell (World.block_lt_of_cell? _ _ (hHeld.2.2.1))).trans (hHeld.2.2.1)
                                 have HS3_ := (hb.cell (World.block_lt_of_cell? _ _ (hHeld.2.2.2))).trans (hHeld.2.2.2)
                                 have n0_ := Aside0.mk (Kd.R_below (Kd.R_elderB (qR HO_16.out) gb249 (Nat.le_of_eq hg.symm)) hb)
                                 have n1_ := Aside0.mk (Kd.R_below (Kd.R_elderB (qR HO_18.out) gb249 (Nat.le_of_eq hg.symm)) hb)
                                 have n2_ := Aside0.mk (blk_below (qB BK212.out) hb)
                                 have n3_ := Aside0.mk (blk_below (qB BK213.out) hb)
                                 have n4_ := Aside0.mk (blk_below (qB BK214.out) hb)
                                 have n5_ := Aside0.mk (blk_below (qB BK224.out) hb)
                                 have n6_ := Aside0.mk (blk_below (qB BK228.out) hb)
                                 have n7_ := Aside0.mk (below_step (by repeat (first | (with_reducible first | exact HB.out | apply below_alloc | apply pw_below_drewN | apply below_drew1 | refine below_set ?_ (Aside0.out (by assumption))) | exact HB.out)) hb)
                                 have n8_ := Aside0.mk (hbox)
                                 have n9_ := Aside0.mk ((by rw [hg]; exact (below_size (by repeat (first | (with_reducible first | exact HB.out | apply below_alloc | apply pw_below_drewN | apply below_drew1 | refine below_set ?_ (Aside0.out (by assumption))) | exact HB.out))) : w.heap.size ≤ gb249))
                                 have n10_ := Aside0.mk ((by rw [hg]; exact (below_size (by repeat (first | (with_reducible first | exact HB.out | apply below_alloc | apply pw_below_drewN | apply below_drew1 | refine below_set ?_ (Aside0.out (by assumption))) | exact HB.out))) : w.heap.size ≤ gb249))
                                 have n11_ := Aside0.mk ((by rw [hg]; exact Nat.ne_of_lt (blk_lt (qB BK212.out)) : gb212 ≠ gb249))
                                 have n12_ := Aside0.mk ((by rw [hg]; exact Nat.ne_of_gt (blk_lt (qB BK212.out)) : gb249 ≠ gb212))
                                 have n13_ := Aside0.mk ((by rw [hg]; exact Nat.ne_of_lt (blk_lt (qB BK213.out)) : gb213 ≠ gb249))
                                 have n14_ := Aside0.mk ((by rw [hg]; exact Nat.ne_of_gt (blk_lt (qB BK213.out)) : gb249 ≠ gb213))
                                 have n15_ := Aside0.mk ((by rw [hg]; exact Nat.ne_of_lt (blk_lt (qB BK214.out)) : gb214 ≠ gb249))
                                 have n16_ := Aside0.mk ((by rw [hg]; exact Nat.ne_of_gt (blk_lt (qB BK214.out)) : gb249 ≠ gb214))
                                 have n17_ := Aside0.mk ((by rw [hg]; exact Nat.ne_of_lt (blk_lt (qB BK224.out)) : gb224 ≠ gb249))
                                 have n18_ := Aside0.mk ((by rw [hg]; exact Nat.ne_of_gt (blk_lt (qB BK224.out)) : gb249 ≠ gb224))
                                 have n19_ := Aside0.mk ((by rw [hg]; exact Nat.ne_of_lt (blk_lt (qB BK228.out)) : gb228 ≠ gb249))
                                 have n20_ := Aside0.mk ((by rw [hg]; exact Nat.ne_of_gt (blk_lt (qB BK228.out)) : gb249 ≠ gb228))
                                 clear HO_16
                                 clear HO_18
                                 clear BK212
                                 clear BK213
                                 clear BK214
                                 clear BK224
                                 clear BK228
                                 clear HB
                                 have HO_16 := n0_
                                 have HO_18 := n1_
                                 have BK212 := n2_
                                 have BK213 := n3_
                                 have BK214 := n4_
                                 have BK224 := n5_
                                 have BK228 := n6_
                                 have HB := n7_
                                 have BK249 := n8_
                                 have GW249 := n9_
                                 have GE249 := n10_
                                 have NB212_249 := n11_
                                 have NB249_212 := n12_
                                 have NB213_249 := n13_
                                 have NB249_213 := n14_
                                 have NB214_249 := n15_
                                 have NB249_214 := n16_
                                 have NB224_249 := n17_
                                 have NB249_224 := n18_
                                 have NB228_249 := n19_
                                 have NB249_228 := n20_
                                 clear n0_ n1_ n2_ n3_ n4_ n5_ n6_ n7_ n8_ n9_ n10_ n11_ n12_ n13_ n14_ n15_ n16_ n17_ n18_ n19_ n20_
                                 clear hb hbox hg
                                 refine hK.out _ _ ⟨HS0_, HS1_, HS2_, HS3_⟩ (fun hHeld => ?_)
                                 clear hK K
                                 refine norm_ (a' := ?_) ?_ ?_
                                 rotate_left
                                 · show Act.put _ (some 20) _ = _
                                   simp only [Act.put, qa_, qz_, qs_, i64_w, i32_w]
                                   rfl
                                 refine one_ (i := 9) (N := some 115) #[true, true, true, true, true, true, true, true, true, true, false, false, false, true, false, false] rfl rfl (one_of HT_.out (by kernel_rfl)) (by decide) (fun K hK => ?_)
                                 refine goes_ Try.func43 (by kernel_rfl) rfl #[.agg #[.int .i64 ((rd_T26 y241 x19_3).f0), .int .i64 ((rd_T26 y241 x19_3).f1)], .agg #[.int .i64 ((rd_T26 y241 (ji107)).f0), .int .i64 ((rd_T26 y241 (ji107)).f1)]] (by rfl) rfl rfl (by (try simp only [List.map_toArray, List.map_cons, List.map_nil]); first | done | (simp only [hji107]; rfl) | rfl | (simp only [List.length_drop, List.length_take]; rfl)) ?_
                                 with_reducible refine (partitaref01_Sub.calls k3 ((rd_T26 y241 x19_3).f0) ((rd_T26 y241 x19_3).f1) ((rd_T26 y241 (ji107)).f0) ((rd_T26 y241 (ji107)).f1) t246 t247 t248 _ A110.out).mono ?_
                                 rintro e w130 ⟨rfl, hb⟩
                                 have HS0_ := (hb.cell (World.block_lt_of_cell? _ _ (hHeld.1))).trans (hHeld.1)
                                 have HS1_ := (hb.cell (World.block_lt_of_cell? _ _ (hHeld.2.1))).trans (hHeld.2.1)
                                 have HS2_ := (hb.cell (World.block_lt_of_cell? _ _ (hHeld.2.2.1))).trans (hHeld.2.2.1)
                                 have HS3_ := (hb.cell (World.block_lt_of_cell? _ _ (hHeld.2.2.2))).trans (hHeld.2.2.2)
                                 refine ⟨_, rfl, ?_⟩
                                 have n0_ := Aside0.mk (Kd.R_below (qR HO_16.out) hb)
                                 have n1_ := Aside0.mk (Kd.R_below (qR HO_18.out) hb)
                                 have n2_ := Aside0.mk (blk_below (qB BK212.out) hb)
                                 have n3_ := Aside0.mk (blk_below (qB BK213.out) hb)
                                 have n4_ := Aside0.mk (blk_below (qB BK214.out) hb)
                                 have n5_ := Aside0.mk (blk_below (qB BK224.out) hb)
                                 have n6_ := Aside0.mk (blk_below (qB BK228.out) hb)
                                 have n7_ := Aside0.mk (blk_below (qB BK249.out) hb)
                                 have n8_ := Aside0.mk (below_step (by repeat (first | (with_reducible first | exact HB.out | apply below_alloc | apply pw_below_drewN | apply below_drew1 | refine below_set ?_ (Aside0.out (by assumption))) | exact HB.out)) hb)
                                 clear HO_16
                                 clear HO_18
                                 clear BK212
                                 clear BK213
                                 clear BK214
                                 clear BK224
                                 clear BK228
                                 clear BK249
                                 clear HB
                                 have HO_16 := n0_
                                 have HO_18 := n1_
                                 have BK212 := n2_
                                 have BK213 := n3_
                                 have BK214 := n4_
                                 have BK224 := n5_
                                 have BK228 := n6_
                                 have BK249 := n7_
                                 have HB := n8_
                                 clear n0_ n1_ n2_ n3_ n4_ n5_ n6_ n7_ n8_
                                 (try clear hb)
                                 (try clear hb2)
                                 (try clear hk)
                                 (try clear hi)
                                 refine hK.out _ _ ⟨HS0_, HS1_, HS2_, HS3_⟩ (fun hHeld => ?_)
                                 clear hK K
                                 refine norm_ (a' := ?_) ?_ ?_
                                 rotate_left
                                 · show Act.put _ (some 115) _ = _
                                   simp only [Act.put, qa_, qz_, qs_, i64_w, i32_w]
                                   rfl
                                 refine pure_ (i := 10) (N := some 105) (v := ?_) (a' := ?_) #[true, true, true, true, true, true, true, true, true, true, true, false, false, true, false, false] rfl rfl (any_of HT_.out (by kernel_rfl)) (fun _ _ _ h => h) (Or.inl ⟨by rfl, ?_⟩) ?_ ?_
                                 rotate_left
                                 · intro w'
                                   go_simp
                                   with_reducible rfl
                                 rotate_left
                                 · simp only [Act.put, qa_, qz_, qs_, i64_w, i32_w]
                                   rfl
                                 refine pure_ (i := 11) (N := some 116) (v := ?_) (a' := ?_) #[true, true, true, true, true, true, true, true, true, true, true, true, false, true, false, false] rfl rfl (any_of HT_.out (by kernel_rfl)) (fun _ _ _ h => h) (Or.inl ⟨by rfl, ?_⟩) ?_ ?_
                                 rotate_left
                                 · intro w'
                                   go_simp
                                   with_reducible rfl
                                 rotate_left
                                 · simp only [Act.put, qa_, qz_, qs_, i64_w, i32_w]
                                   rfl
                                 refine pure_ (i := 12) (N := some 117) (v := ?_) (a' := ?_) #[true, true, true, true, true, true, true, true, true, true, true, true, true, true, false, false] rfl rfl (any_of HT_.out (by kernel_rfl)) (fun _ _ _ h => h) (Or.inl ⟨by rfl, ?_⟩) ?_ ?_
                                 rotate_left
                                 · intro w'
                                   go_simp
                                   with_reducible rfl
                                 rotate_left
                                 · simp only [Act.put, qa_, qz_, qs_, i64_w, i32_w]
                                   rfl
                                 exact norm_ (by simp only [putAll, Act.put, qa_, qz_, qs_]) (hCont (gb249) _ ⟨hHeld, (qR (Kd.R_mono HO_16.out (fun _ hk => ⟨hk.1.1, ⟨hk.1.2.1, ⟨hk.1.2.2.1, ⟨hk.1.2.2.2.1, ⟨hk.1.2.2.2.2, hk.2⟩⟩⟩⟩⟩))), (qR (Kd.R_mono HO_18.out (fun _ hk => ⟨hk.1.1, ⟨hk.1.2.1, ⟨hk.1.2.2.1, ⟨hk.1.2.2.2.1, ⟨hk.1.2.2.2.2, hk.2⟩⟩⟩⟩⟩))), (qB BK212.out), (qB BK213.out), (qB BK214.out), (qB BK224.out), (qB BK228.out), (qB BK249.out), GW249.out, GE249.out, NB212_249.out, NB249_212.out, NB213_249.out, NB249_213.out, NB214_249.out, NB249_214.out, NB224_249.out, NB249_224.out, NB228_249.out, NB249_228.out, (by repeat (first | (with_reducible first | exact HB.out | apply below_alloc | apply pw_below_drewN | apply below_drew1 | refine below_set ?_ (Aside0.out (by assumption))) | exact HB.out))⟩)
                             rintro gb249 w131 ⟨hS_, h0_, h1_, h2_, h3_, h4_, h5_, h6_, h7_, h8_, h9_, h10_, h11_, h12_, h13_, h14_, h15_, h16_, h17_, h18_, h19_, h20_⟩
                             have n0_ : Aside0 (Kd.R k26 26 w131 w.heap.size (fun k_ => some k_ ≠ (u18 : Value).ownBlock ∧ k_ ≠ gb213 ∧ k_ ≠ gb214 ∧ k_ ≠ gb224 ∧ k_ ≠ gb228 ∧ k_ ≠ gb249) (.slice (some ad244) y241.length co127) y241) := ⟨h0_⟩
                             have n1_ : Aside0 (Kd.R k26 26 w131 w.heap.size (fun k_ => some k_ ≠ (.slice (some ad244) y241.length co127 : Value).ownBlock ∧ k_ ≠ gb213 ∧ k_ ≠ gb214 ∧ k_ ≠ gb224 ∧ k_ ≠ gb228 ∧ k_ ≠ gb249) u18 x18_3) := ⟨h1_⟩
                             have n2_ : Aside0 (w131.heap[gb212]? = some (.cells #[.int .i64 a0_0, .int .i64 a0_1, .slice A0_2 l0_2.length c0_2] 24 (0, 0))) := ⟨h2_⟩
                             have n3_ : Aside0 (w131.heap[gb213]? = some (.cells #[.int .i64 a1_0, .int .i64 a1_1] 26 (0, 0))) := ⟨h3_⟩
                             have n4_ : Aside0 (w131.heap[gb214]? = some (.cells #[.int .i64 a2_0, .int .i64 a2_1] 26 (0, 0))) := ⟨h4_⟩
                             have n5_ : Aside0 (w131.heap[gb224]? = some (.cells #[.int .i64 t221, .int .i64 t222] 26 (0, 0))) := ⟨h5_⟩
                             have n6_ : Aside0 (w131.heap[gb228]? = some (.cells #[.int .i64 t225, .int .i64 t226] 26 (0, 0))) := ⟨h6_⟩
                             have n7_ : Aside0 (w131.heap[gb249]? = some (.cells #[.int .i64 0, .int .i64 0] 26 (0, 0))) := ⟨h7_⟩
                             have n8_ : Aside0 (w.heap.size ≤ gb249) := ⟨h8_⟩
                             have n9_ : Aside0 (w.heap.size ≤ gb249) := ⟨h9_⟩
                             have n10_ : Aside0 (gb212 ≠ gb249) := ⟨h10_⟩
                             have n11_ : Aside0 (gb249 ≠ gb212) := ⟨h11_⟩
                             have n12_ : Aside0 (gb213 ≠ gb249) := ⟨h12_⟩
                             have n13_ : Aside0 (gb249 ≠ gb213) := ⟨h13_⟩
                             have n14_ : Aside0 (gb214 ≠ gb249) := ⟨h14_⟩
                             have n15_ : Aside0 (gb249 ≠ gb214) := ⟨h15_⟩
                             have n16_ : Aside0 (gb224 ≠ gb249) := ⟨h16_⟩
                             have n17_ : Aside0 (gb249 ≠ gb224) := ⟨h17_⟩
                             have n18_ : Aside0 (gb228 ≠ gb249) := ⟨h18_⟩
                             have n19_ : Aside0 (gb249 ≠ gb228) := ⟨h19_⟩
                             have n20_ : Aside0 (Below w.heap.size w w131) := ⟨h20_⟩
                             clear HO_16
                             clear HO_18
                             clear BK212
                             clear BK213
                             clear BK214
                             clear BK224
                             clear BK228
                             clear HB
                             clear h0_ h1_ h2_ h3_ h4_ h5_ h6_ h7_ h8_ h9_ h10_ h11_ h12_ h13_ h14_ h15_ h16_ h17_ h18_ h19_ h20_
                             have HO_16 := n0_
                             have HO_18 := n1_
                             have BK212 := n2_
                             have BK213 := n3_
                             have BK214 := n4_
                             have BK224 := n5_
                             have BK228 := n6_
                             have BK249 := n7_
                             have GW249 := n8_
                             have GE249 := n9_
                             have NB212_249 := n10_
                             have NB249_212 := n11_
                             have NB213_249 := n12_
                             have NB249_213 := n13_
                             have NB214_249 := n14_
                             have NB249_214 := n15_
                             have NB224_249 := n16_
                             have NB249_224 := n17_
                             have NB228_249 := n18_
                             have NB249_228 := n19_
                             have HB := n20_
                             clear n0_ n1_ n2_ n3_ n4_ n5_ n6_ n7_ n8_ n9_ n10_ n11_ n12_ n13_ n14_ n15_ n16_ n17_ n18_ n19_ n20_
                             have hHeld : w131.cell? (ad244.add ((x19_3).toNat * 2)) = some (.int .i64 ((rd_T26 y241 x19_3).f0)) ∧ w131.cell? ⟨(ad244.add ((x19_3).toNat * 2)).block, (ad244.add ((x19_3).toNat * 2)).off + 1, none⟩ = some (.int .i64 ((rd_T26 y241 x19_3).f1)) ∧ w131.cell? (ad244.add (((ji107)).toNat * 2)) = some (.int .i64 ((rd_T26 y241 (ji107)).f0)) ∧ w131.cell? ⟨(ad244.add (((ji107)).toNat * 2)).block, (ad244.add (((ji107)).toNat * 2)).off + 1, none⟩ = some (.int .i64 ((rd_T26 y241 (ji107)).f1)) := hS_
                             refine norm_ (a' := ?_) ?_ ?_
                             rotate_left
                             · simp only [putAll, Act.put, qa_, qz_, qs_]
                               rfl
                             refine one_ (i := 14) (N := none) #[true, true, true, true, true, true, true, true, true, true, true, true, true, true, true, false] rfl rfl (one_of HT_.out (by kernel_rfl)) (by decide) (fun K hK => ?_)
                             have hs132 : w131.cell? ⟨gb249, 0, none⟩ = some (.int .i64 0) := (blk_cell BK249.out 0).trans rfl
                             have hfs132 := blk_frozen BK249.out 0
                             have hns132_0 := NB212_249.out
                             have hns132_1 := NB213_249.out
                             have hns132_2 := NB214_249.out
                             have hns132_3 := NB224_249.out
                             have hns132_4 := NB228_249.out
                             have hms132_0 := NB249_212.out
                             have hms132_1 := NB249_213.out
                             have hms132_2 := NB249_214.out
                             have hms132_3 := NB249_224.out
                             have hms132_4 := NB249_228.out
                             have hs133 : w131.cell? ⟨gb249, 1, none⟩ = some (.int .i64 0) := (blk_cell BK249.out 1).trans rfl
                             have hfs133 := blk_frozen BK249.out 1
                             have hns133_0 := NB212_249.out
                             have hns133_1 := NB213_249.out
                             have hns133_2 := NB214_249.out
                             have hns133_3 := NB224_249.out
                             have hns133_4 := NB228_249.out
                             have hms133_0 := NB249_212.out
                             have hms133_1 := NB249_213.out
                             have hms133_2 := NB249_214.out
                             have hms133_3 := NB249_224.out
                             have hms133_4 := NB249_228.out
                             refine skip_ (w1 := ?_) (by rfl) rfl ?_ ?_
                             rotate_left
                             · go_simp
                               rfl
                             refine hK.out _ _ ⟨((cell_far (p := ⟨gb249, _, none⟩) (by first | exact Kd.own_blk (Kd.R_away HO_16.out (fun _ hk => hk.2.2.2.2.2)) | (rw [add_block]; exact Kd.own_blk (Kd.R_away HO_16.out (fun _ hk => hk.2.2.2.2.2))) | (show (Addr.add _ _).block ≠ _; rw [add_block]; exact Kd.own_blk (Kd.R_away HO_16.out (fun _ hk => hk.2.2.2.2.2))) | (dsimp only; exact Kd.own_blk (Kd.R_away HO_16.out (fun _ hk => hk.2.2.2.2.2)))) _).trans (((cell_far (p := ⟨gb249, _, none⟩) (by first | exact Kd.own_blk (Kd.R_away HO_16.out (fun _ hk => hk.2.2.2.2.2)) | (rw [add_block]; exact Kd.own_blk (Kd.R_away HO_16.out (fun _ hk => hk.2.2.2.2.2))) | (show (Addr.add _ _).block ≠ _; rw [add_block]; exact Kd.own_blk (Kd.R_away HO_16.out (fun _ hk => hk.2.2.2.2.2))) | (dsimp only; exact Kd.own_blk (Kd.R_away HO_16.out (fun _ hk => hk.2.2.2.2.2)))) _).trans (hHeld.1)))), ((cell_far (p := ⟨gb249, _, none⟩) (by first | exact Kd.own_blk (Kd.R_away HO_16.out (fun _ hk => hk.2.2.2.2.2)) | (rw [add_block]; exact Kd.own_blk (Kd.R_away HO_16.out (fun _ hk => hk.2.2.2.2.2))) | (show (Addr.add _ _).block ≠ _; rw [add_block]; exact Kd.own_blk (Kd.R_away HO_16.out (fun _ hk => hk.2.2.2.2.2))) | (dsimp only; exact Kd.own_blk (Kd.R_away HO_16.out (fun _ hk => hk.2.2.2.2.2)))) _).trans (((cell_far (p := ⟨gb249, _, none⟩) (by first | exact Kd.own_blk (Kd.R_away HO_16.out (fun _ hk => hk.2.2.2.2.2)) | (rw [add_block]; exact Kd.own_blk (Kd.R_away HO_16.out (fun _ hk => hk.2.2.2.2.2))) | (show (Addr.add _ _).block ≠ _; rw [add_block]; exact Kd.own_blk (Kd.R_away HO_16.out (fun _ hk => hk.2.2.2.2.2))) | (dsimp only; exact Kd.own_blk (Kd.R_away HO_16.out (fun _ hk => hk.2.2.2.2.2)))) _).trans (hHeld.2.1)))), ((cell_far (p := ⟨gb249, _, none⟩) (by first | exact Kd.own_blk (Kd.R_away HO_16.out (fun _ hk => hk.2.2.2.2.2)) | (rw [add_block]; exact Kd.own_blk (Kd.R_away HO_16.out (fun _ hk => hk.2.2.2.2.2))) | (show (Addr.add _ _).block ≠ _; rw [add_block]; exact Kd.own_blk (Kd.R_away HO_16.out (fun _ hk => hk.2.2.2.2.2))) | (dsimp only; exact Kd.own_blk (Kd.R_away HO_16.out (fun _ hk => hk.2.2.2.2.2)))) _).trans (((cell_far (p := ⟨gb249, _, none⟩) (by first | exact Kd.own_blk (Kd.R_away HO_16.out (fun _ hk => hk.2.2.2.2.2)) | (rw [add_block]; exact Kd.own_blk (Kd.R_away HO_16.out (fun _ hk => hk.2.2.2.2.2))) | (show (Addr.add _ _).block ≠ _; rw [add_block]; exact Kd.own_blk (Kd.R_away HO_16.out (fun _ hk => hk.2.2.2.2.2))) | (dsimp only; exact Kd.own_blk (Kd.R_away HO_16.out (fun _ hk => hk.2.2.2.2.2)))) _).trans (hHeld.2.2.1)))), ((cell_far (p := ⟨gb249, _, none⟩) (by first | exact Kd.own_blk (Kd.R_away HO_16.out (fun _ hk => hk.2.2.2.2.2)) | (rw [add_block]; exact Kd.own_blk (Kd.R_away HO_16.out (fun _ hk => hk.2.2.2.2.2))) | (show (Addr.add _ _).block ≠ _; rw [add_block]; exact Kd.own_blk (Kd.R_away HO_16.out (fun _ hk => hk.2.2.2.2.2))) | (dsimp only; exact Kd.own_blk (Kd.R_away HO_16.out (fun _ hk => hk.2.2.2.2.2)))) _).trans (((cell_far (p := ⟨gb249, _, none⟩) (by first | exact Kd.own_blk (Kd.R_away HO_16.out (fun _ hk => hk.2.2.2.2.2)) | (rw [add_block]; exact Kd.own_blk (Kd.R_away HO_16.out (fun _ hk => hk.2.2.2.2.2))) | (show (Addr.add _ _).block ≠ _; rw [add_block]; exact Kd.own_blk (Kd.R_away HO_16.out (fun _ hk => hk.2.2.2.2.2))) | (dsimp only; exact Kd.own_blk (Kd.R_away HO_16.out (fun _ hk => hk.2.2.2.2.2)))) _).trans (hHeld.2.2.2))))⟩ (fun hHeld => ?_)
                             clear hK K
                             refine pure_ (i := 15) (N := some 21) (v := ?_) (a' := ?_) #[true, true, true, true, true, true, true, true, true, true, true, true, true, true, true, true] rfl rfl (any_of HT_.out (by kernel_rfl)) (fun _ _ _ h => h) (Or.inl ⟨by rfl, ?_⟩) ?_ ?_
                             rotate_left
                             · intro w'
                               go_simp
                               with_reducible rfl
                             rotate_left
                             · simp only [Act.put, qa_, qz_, qs_, i64_w, i32_w]
                               rfl
                             refine done_ (done_of HT_.out (by kernel_rfl)) ?_
                             try go_wp2
                             go_ret2
                             exact ⟨_, by first | rfl | (simp [errW_none, errW_some] <;> rfl) | (simp only [← hji107]; first | rfl | (simp [errW_none, errW_some] <;> rfl)) | (simp [*, errW_none, errW_some] <;> rfl), by first | exact Kd.R_nil _ _ _ _ _ | exact Kd.N_nil _ _ _ _ _ | exact Kd.V_nil _ _ _ _ _ | exact Kd.Q_nil _ _ _ _ _ | exact Kd.S_nil _ _ _ _ _, by repeat (first | (with_reducible first | exact HB.out | apply below_alloc | apply pw_below_drewN | apply below_drew1 | refine below_set ?_ (Aside0.out (by assumption))) | exact HB.out)⟩
                         · rw [if_neg c109] at H
                           exact absurd H (by simp)
                       · rw [if_neg c108] at H
                         exact absurd H (by simp)
                     · rw [if_neg c106] at H
                       exact absurd H (by simp)
                   · rw [if_neg c105] at H
                     have c105b0 : decide (x19_3 < (y241.length : Int)) = false := decide_eq_false c105
                     clear c105
                     simp only [Option.some.injEq, Prod.mk.injEq] at H
                     obtain ⟨rfl, rfl⟩ := H
                     obtain ⟨Ao134, co134, eo134⟩ := Kd.R_slice HO_16.out
                     subst eo134
                     go_wp2
                     go_ret2
                     exact ⟨_, by first | rfl | (simp [errW_none, errW_some] <;> rfl) | (simp [*, errW_none, errW_some] <;> rfl), by (with_reducible repeat (first | apply Kd.R_alloc | apply Kd.R_drewN | apply Kd.R_drew)); exact Kd.R_mono HO_18.out (fun _ hk => trivial), by repeat (first | (with_reducible first | exact HB.out | apply below_alloc | apply pw_below_drewN | apply below_drew1 | refine below_set ?_ (Aside0.out (by assumption))) | exact HB.out)⟩
               · rw [if_neg c97] at H
                 exact absurd H (by simp)
       · rw [if_neg c29] at H
         have c29b0 : (t223 == 0) = false := beq_eq_false_iff_ne.mpr c29
         have c29b1 : (t223 != 0) = true := bne_iff_ne.mpr c29
         simp only [Option.some.injEq, Prod.mk.injEq] at H
         obtain ⟨rfl, rfl⟩ := H
         have hnb135 := NB213_212.out
         have hnc135 := NB212_213.out
         have hnb136 := NB213_214.out
         have hnc136 := NB214_213.out
         have hcz137_0 : wc.cell? ⟨gb213, 0, none⟩ = some (.int .i64 a1_0) := (blk_cell BK213.out 0).trans rfl
         have hcz137_1 : wc.cell? ⟨gb213, 1, none⟩ = some (.int .i64 a1_1) := (blk_cell BK213.out 1).trans rfl
         have hfz137_0 := blk_frozen BK213.out 0
         have hfz137_1 := blk_frozen BK213.out 1
         have hnb138 := NB214_212.out
         have hnc138 := NB212_214.out
         have hcz139_0 : wc.cell? ⟨gb214, 0, none⟩ = some (.int .i64 a2_0) := (blk_cell BK214.out 0).trans rfl
         have hcz139_1 : wc.cell? ⟨gb214, 1, none⟩ = some (.int .i64 a2_1) := (blk_cell BK214.out 1).trans rfl
         have hfz139_0 := blk_frozen BK214.out 0
         have hfz139_1 := blk_frozen BK214.out 1
         go_wp2_with (first | ((with_reducible refine gate_callee (f := 41) rfl ?_); refine goesL_ (some 49) rfl rfl Try.func41 (by kernel_rfl) rfl #[.agg #[.int .i64 a1_0, .int .i64 a1_1], .agg #[.int .i64 a2_0, .int .i64 a2_1]] rfl (by (try simp only [List.map_toArray, List.map_cons, List.map_nil]); first | done | rfl | (simp only [List.length_drop, List.length_take]; rfl)) ?_; (with_reducible refine (partitaref01_Add.calls kj7 a1_0 a1_1 a2_0 a2_1 t221 t222 t223 _ A28.out).mono ?_); rintro e w140 ⟨rfl, hb⟩; refine ⟨_, rfl, ?_⟩; have n0_ := Aside0.mk (Kd.R_below (qR HO_8.out) hb); have n1_ := Aside0.mk (blk_below (qB BK212.out) hb); have n2_ := Aside0.mk (blk_below (qB BK213.out) hb); have n3_ := Aside0.mk (blk_below (qB BK214.out) hb); have n4_ := Aside0.mk (below_step (by repeat (first | (with_reducible first | exact HB.out | apply below_alloc | apply pw_below_drewN | apply below_drew1 | refine below_set ?_ (Aside0.out (by assumption))) | exact HB.out)) hb); clear HO_8; clear BK212; clear BK213; clear BK214; clear HB; have HO_8 := n0_; have BK212 := n1_; have BK213 := n2_; have BK214 := n3_; have HB := n4_; clear n0_ n1_ n2_ n3_ n4_; (try clear hb); (try clear hb2); (try clear hk); (try clear hi)) | ((with_reducible refine gate_dst (N := 12) rfl ?_); refine box_event ?hg (N := 12) ?hd (cs := #[.int .i64 0, .int .i64 0]) (t := 26) ?hr ?_; (case hd => rfl); (case hg => rfl); (case hr => first | (go_simp; done) | (go_simp; rfl)); intro gb224 hg w141 hbox hb; have n0_ := Aside0.mk (Kd.R_below (Kd.R_elderB (qR HO_8.out) gb224 (Nat.le_of_eq hg.symm)) hb); have n1_ := Aside0.mk (blk_below (qB BK212.out) hb); have n2_ := Aside0.mk (blk_below (qB BK213.out) hb); have n3_ := Aside0.mk (blk_below (qB BK214.out) hb); have n4_ := Aside0.mk (below_step (by repeat (first | (with_reducible first | exact HB.out | apply below_alloc | apply pw_below_drewN | apply below_drew1 | refine below_set ?_ (Aside0.out (by assumption))) | exact HB.out)) hb); have n5_ := Aside0.mk (hbox); have n6_ := Aside0.mk ((by rw [hg]; exact (below_size (by repeat (first | (with_reducible first | exact HB.out | apply below_alloc | apply pw_below_drewN | apply below_drew1 | refine below_set ?_ (Aside0.out (by assumption))) | exact HB.out))) : w.heap.size ≤ gb224)); have n7_ := Aside0.mk ((by rw [hg]; exact (below_size (by repeat (first | (with_reducible first | exact HB.out | apply below_alloc | apply pw_below_drewN | apply below_drew1 | refine below_set ?_ (Aside0.out (by assumption))) | exact HB.out))) : w.heap.size ≤ gb224)); have n8_ := Aside0.mk ((by rw [hg]; exact Nat.ne_of_lt (blk_lt (qB BK212.out)) : gb212 ≠ gb224)); have n9_ := Aside0.mk ((by rw [hg]; exact Nat.ne_of_gt (blk_lt (qB BK212.out)) : gb224 ≠ gb212)); have n10_ := Aside0.mk ((by rw [hg]; exact Nat.ne_of_lt (blk_lt (qB BK213.out)) : gb213 ≠ gb224)); have n11_ := Aside0.mk ((by rw [hg]; exact Nat.ne_of_gt (blk_lt (qB BK213.out)) : gb224 ≠ gb213)); have n12_ := Aside0.mk ((by rw [hg]; exact Nat.ne_of_lt (blk_lt (qB BK214.out)) : gb214 ≠ gb224)); have n13_ := Aside0.mk ((by rw [hg]; exact Nat.ne_of_gt (blk_lt (qB BK214.out)) : gb224 ≠ gb214)); clear HO_8; clear BK212; clear BK213; clear BK214; clear HB; have HO_8 := n0_; have BK212 := n1_; have BK213 := n2_; have BK214 := n3_; have HB := n4_; have BK224 := n5_; have GW224 := n6_; have GE224 := n7_; have NB212_224 := n8_; have NB224_212 := n9_; have NB213_224 := n10_; have NB224_213 := n11_; have NB214_224 := n12_; have NB224_214 := n13_; clear n0_ n1_ n2_ n3_ n4_ n5_ n6_ n7_ n8_ n9_ n10_ n11_ n12_ n13_; clear hb hbox hg; have hnb142 := NB224_212.out; have hnc142 := NB212_224.out; have hnb143 := NB224_213.out; have hnc143 := NB213_224.out; have hnb144 := NB224_214.out; have hnc144 := NB214_224.out; have hcz145_0 : w141.cell? ⟨gb224, 0, none⟩ = some (.int .i64 0) := (blk_cell BK224.out 0).trans rfl; have hcz145_1 : w141.cell? ⟨gb224, 1, none⟩ = some (.int .i64 0) := (blk_cell BK224.out 1).trans rfl; have hfz145_0 := blk_frozen BK224.out 0; have hfz145_1 := blk_frozen BK224.out 1))
         go_ret2
         exact ⟨_, by first | rfl | (simp [errW_none, errW_some] <;> rfl) | (simp [*, errW_none, errW_some] <;> rfl), by first | exact Kd.R_nil _ _ _ _ _ | exact Kd.N_nil _ _ _ _ _ | exact Kd.V_nil _ _ _ _ _ | exact Kd.Q_nil _ _ _ _ _ | exact Kd.S_nil _ _ _ _ _, by repeat (first | (with_reducible first | exact HB.out | apply below_alloc | apply pw_below_drewN | apply below_drew1 | refine below_set ?_ (Aside0.out (by assumption))) | exact HB.out)⟩
 · rw [if_neg c5] at H
   have c5b0 : (t218 == 0) = false := beq_eq_false_iff_ne.mpr c5
   have c5b1 : (t218 != 0) = true := bne_iff_ne.mpr c5
   simp only [Option.some.injEq, Prod.mk.injEq] at H
   obtain ⟨rfl, rfl⟩ := H
   go_enter Try.func25, Try.ntmps25
   go_wp2_with (first | ((with_reducible refine gate_dst (N := 3) rfl ?_); refine box_event ?hg (N := 3) ?hd (cs := #[.int .i64 a0_0, .int .i64 a0_1, .slice A0_2 l0_2.length c0_2]) (t := 24) ?hr ?_; (case hd => rfl); (case hg => rfl); (case hr => first | (go_simp; done) | (go_simp; rfl)); intro gb212 hg w146 hbox hb; have n0_ := Aside0.mk (below_step (by repeat (first | (with_reducible first | exact HB.out | apply below_alloc | apply pw_below_drewN | apply below_drew1) | exact HB.out)) hb); have n1_ := Aside0.mk (hbox); have n2_ := Aside0.mk ((by rw [hg]; exact (below_size (by repeat (first | (with_reducible first | exact HB.out | apply below_alloc | apply pw_below_drewN | apply below_drew1) | exact HB.out))) : w.heap.size ≤ gb212)); have n3_ := Aside0.mk ((by rw [hg]; exact (below_size (by repeat (first | (with_reducible first | exact HB.out | apply below_alloc | apply pw_below_drewN | apply below_drew1) | exact HB.out))) : w.heap.size ≤ gb212)); clear HB; have HB := n0_; have BK212 := n1_; have GW212 := n2_; have GE212 := n3_; clear n0_ n1_ n2_ n3_; clear hb hbox hg) | ((with_reducible refine gate_dst (N := 4) rfl ?_); refine box_event ?hg (N := 4) ?hd (cs := #[.int .i64 a1_0, .int .i64 a1_1]) (t := 26) ?hr ?_; (case hd => rfl); (case hg => rfl); (case hr => first | (go_simp; done) | (go_simp; rfl)); intro gb213 hg w147 hbox hb; have n0_ := Aside0.mk (blk_below (qB BK212.out) hb); have n1_ := Aside0.mk (below_step (by repeat (first | (with_reducible first | exact HB.out | apply below_alloc | apply pw_below_drewN | apply below_drew1 | refine below_set ?_ GE212.out) | exact HB.out)) hb); have n2_ := Aside0.mk (hbox); have n3_ := Aside0.mk ((by rw [hg]; exact (below_size (by repeat (first | (with_reducible first | exact HB.out | apply below_alloc | apply pw_below_drewN | apply below_drew1 | refine below_set ?_ GE212.out) | exact HB.out))) : w.heap.size ≤ gb213)); have n4_ := Aside0.mk ((by rw [hg]; exact (below_size (by repeat (first | (with_reducible first | exact HB.out | apply below_alloc | apply pw_below_drewN | apply below_drew1 | refine below_set ?_ GE212.out) | exact HB.out))) : w.heap.size ≤ gb213)); have n5_ := Aside0.mk ((by rw [hg]; exact Nat.ne_of_lt (blk_lt (qB BK212.out)) : gb212 ≠ gb213)); have n6_ := Aside0.mk ((by rw [hg]; exact Nat.ne_of_gt (blk_lt (qB BK212.out)) : gb213 ≠ gb212)); clear BK212; clear HB; have BK212 := n0_; have HB := n1_; have BK213 := n2_; have GW213 := n3_; have GE213 := n4_; have NB212_213 := n5_; have NB213_212 := n6_; clear n0_ n1_ n2_ n3_ n4_ n5_ n6_; clear hb hbox hg) | ((with_reducible refine gate_dst (N := 5) rfl ?_); refine box_event ?hg (N := 5) ?hd (cs := #[.int .i64 a2_0, .int .i64 a2_1]) (t := 26) ?hr ?_; (case hd => rfl); (case hg => rfl); (case hr => first | (go_simp; done) | (go_simp; rfl)); intro gb214 hg w148 hbox hb; have n0_ := Aside0.mk (blk_below (qB BK212.out) hb); have n1_ := Aside0.mk (blk_below (qB BK213.out) hb); have n2_ := Aside0.mk (below_step (by repeat (first | (with_reducible first | exact HB.out | apply below_alloc | apply pw_below_drewN | apply below_drew1 | refine below_set ?_ (Aside0.out (by assumption))) | exact HB.out)) hb); have n3_ := Aside0.mk (hbox); have n4_ := Aside0.mk ((by rw [hg]; exact (below_size (by repeat (first | (with_reducible first | exact HB.out | apply below_alloc | apply pw_below_drewN | apply below_drew1 | refine below_set ?_ (Aside0.out (by assumption))) | exact HB.out))) : w.heap.size ≤ gb214)); have n5_ := Aside0.mk ((by rw [hg]; exact (below_size (by repeat (first | (with_reducible first | exact HB.out | apply below_alloc | apply pw_below_drewN | apply below_drew1 | refine below_set ?_ (Aside0.out (by assumption))) | exact HB.out))) : w.heap.size ≤ gb214)); have n6_ := Aside0.mk ((by rw [hg]; exact Nat.ne_of_lt (blk_lt (qB BK212.out)) : gb212 ≠ gb214)); have n7_ := Aside0.mk ((by rw [hg]; exact Nat.ne_of_gt (blk_lt (qB BK212.out)) : gb214 ≠ gb212)); have n8_ := Aside0.mk ((by rw [hg]; exact Nat.ne_of_lt (blk_lt (qB BK213.out)) : gb213 ≠ gb214)); have n9_ := Aside0.mk ((by rw [hg]; exact Nat.ne_of_gt (blk_lt (qB BK213.out)) : gb214 ≠ gb213)); clear BK212; clear BK213; clear HB; have BK212 := n0_; have BK213 := n1_; have HB := n2_; have BK214 := n3_; have GW214 := n4_; have GE214 := n5_; have NB212_214 := n6_; have NB214_212 := n7_; have NB213_214 := n8_; have NB214_213 := n9_; clear n0_ n1_ n2_ n3_ n4_ n5_ n6_ n7_ n8_ n9_; clear hb hbox hg; have hnb149 := NB212_213.out; have hnc149 := NB213_212.out; have hnb150 := NB212_214.out; have hnc150 := NB214_212.out; have hcz151_0 : w148.cell? ⟨gb212, 0, none⟩ = some (.int .i64 a0_0) := (blk_cell BK212.out 0).trans rfl; have hcz151_1 : w148.cell? ⟨gb212, 1, none⟩ = some (.int .i64 a0_1) := (blk_cell BK212.out 1).trans rfl; have hcz151_2 : w148.cell? ⟨gb212, 2, none⟩ = some (.slice A0_2 l0_2.length c0_2) := (blk_cell BK212.out 2).trans rfl; have hfz151_0 := blk_frozen BK212.out 0; have hfz151_1 := blk_frozen BK212.out 1; have hfz151_2 := blk_frozen BK212.out 2) | ((with_reducible refine gate_callee (f := 15) rfl ?_); refine goesL_ (some 24) rfl rfl Try.func15 (by kernel_rfl) rfl #[.agg #[.int .i64 a0_0, .int .i64 a0_1, .slice A0_2 l0_2.length c0_2]] rfl (by (try simp only [List.map_toArray, List.map_cons, List.map_nil]); first | done | rfl | (simp only [List.length_drop, List.length_take]; rfl)) ?_; (with_reducible refine (partitaref05_Beats.calls k a0_0 a0_1 _ _ l0_2 t215 t218 _ ?side1 ?side2 A4.out).mono ?_); (case side1 => repeat (first | exact (Kd.C_below HR0_2.out HB.out) | (with_reducible refine Kd.C_alloc ?_ _) | (with_reducible refine Kd.C_drewN ?_ _) | (with_reducible refine Kd.C_drew ?_))); (case side2 => exact HC0_2.out); rintro e w152 ⟨v216, rfl, ho0, hb⟩; refine ⟨_, rfl, ?_⟩; have n0_ := Aside0.mk (Kd.R_lower (Kd.R_newB (Kd.R_newB ho0 (qB BK213.out)) (qB BK214.out)) (below_size (by repeat (first | (with_reducible first | exact HB.out | apply below_alloc | apply pw_below_drewN | apply below_drew1 | refine below_set ?_ (Aside0.out (by assumption))) | exact HB.out)))); have n1_ := Aside0.mk (blk_below (qB BK212.out) hb); have n2_ := Aside0.mk (blk_below (qB BK213.out) hb); have n3_ := Aside0.mk (blk_below (qB BK214.out) hb); have n4_ := Aside0.mk (below_step (by repeat (first | (with_reducible first | exact HB.out | apply below_alloc | apply pw_below_drewN | apply below_drew1 | refine below_set ?_ (Aside0.out (by assumption))) | exact HB.out)) hb); clear BK212; clear BK213; clear BK214; clear HB; have HO217 := n0_; have BK212 := n1_; have BK213 := n2_; have BK214 := n3_; have HB := n4_; clear n0_ n1_ n2_ n3_ n4_; (try clear hb); (try clear hb2); (try clear hk); (try clear hi); (try clear ho0)))
   go_ret2
   exact ⟨_, by first | rfl | (simp [errW_none, errW_some] <;> rfl) | (simp [*, errW_none, errW_some] <;> rfl), by first | exact Kd.R_nil _ _ _ _ _ | exact Kd.N_nil _ _ _ _ _ | exact Kd.V_nil _ _ _ _ _ | exact Kd.Q_nil _ _ _ _ _ | exact Kd.S_nil _ _ _ _ _, by repeat (first | (with_reducible first | exact HB.out | apply below_alloc | apply pw_below_drewN | apply below_drew1 | refine below_set ?_ (Aside0.out (by assumption))) | exact HB.out)⟩

end Go.Proofs.Ytbncdlnnjhadgaa.Q
