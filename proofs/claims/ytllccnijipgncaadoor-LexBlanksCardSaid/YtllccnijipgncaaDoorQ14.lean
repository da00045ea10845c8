-- Written by a program of this session (myprint.py), function by function.
import Derived.Test.YtllccnijipgncaaDoorQ0
import Derived.Test.YtllccnijipgncaaDoorQ13
namespace Go.Proofs.YtllccnijipgncaaDoor.Q
open Go.RowKit Go.Proofs.YtllccnijipgncaaDoorW.PrintWords Go.Proofs.YtllccnijipgncaaDoorW.PrintLast Go.Proofs.YtllccnijipgncaaDoorW.PrintMore
attribute [local go_sem] max2_int min2_int max_two min_two max_three min_three max_four min_four   -- for this text's walks alone
set_option linter.unusedVariables false
set_option linter.unusedSimpArgs false

/-! ### partitaref18_Print: function 18 -/
mutual
def partitaref18_Print.l0 : Nat → List (S35) → ByteArray → Int → Option (ByteArray × Int)
 | 0, _, _, _ => none
 | k + 1, x0, x4, x5 => if x5 < (x0.length : Int) then (if 0 ≤ x5 then ((partitaref18_Right.f k ((rd_T35 x0 x5).f0) ((rd_T35 x0 x5).f1) ((rd_T35 x0 x5).f2)).bind fun t229 => (if t229 = true then (if x5 > 0 then (if ((rd_T35 x0 x5).f0) = 5 then (partitaref18_Print.j1 k x0 x4 x5 false) else (if 0 ≤ (wrap64 (x5 - 1)) then (if (wrap64 (x5 - 1)) < (x0.length : Int) then (partitaref18_Print.j1 k x0 x4 x5 (((rd_T35 x0 (wrap64 (x5 - 1))).f0) != 5)) else (none)) else (none))) else (partitaref18_Print.j1 k x0 x4 x5 false)) else (some ((⟨#[]⟩ : ByteArray), 180)))) else (none)) else (some (x4, 0))
def partitaref18_Print.j1 : Nat → List (S35) → ByteArray → Int → Bool → Option (ByteArray × Int)
 | 0, _, _, _, _ => none
 | k + 1, x0, x4, x5, x38 => if x38 = true then (if x4.size + 1 ≤ 9223372036854775807 then (if 0 ≤ x5 then (if x5 < (x0.length : Int) then (if ((rd_T35 x0 x5).f0) = 3 then ((partitaref18_Quote.f k ((rd_T35 x0 x5).f1)).bind fun bt234 => (if (x4 ++ (⟨#[32]⟩ : ByteArray)).size + bt234.1.size ≤ 9223372036854775807 then (partitaref18_Print.l0 k x0 ((x4 ++ (⟨#[32]⟩ : ByteArray)) ++ bt234.1) (wrap64 (x5 + 1))) else (none))) else (if (x4 ++ (⟨#[32]⟩ : ByteArray)).size + ((rd_T35 x0 x5).f1).size ≤ 9223372036854775807 then (partitaref18_Print.l0 k x0 ((x4 ++ (⟨#[32]⟩ : ByteArray)) ++ ((rd_T35 x0 x5).f1)) (wrap64 (x5 + 1))) else (none))) else (none)) else (none)) else (none)) else (if 0 ≤ x5 then (if x5 < (x0.length : Int) then (if ((rd_T35 x0 x5).f0) = 3 then ((partitaref18_Quote.f k ((rd_T35 x0 x5).f1)).bind fun bt239 => (if x4.size + bt239.1.size ≤ 9223372036854775807 then (partitaref18_Print.l0 k x0 (x4 ++ bt239.1) (wrap64 (x5 + 1))) else (none))) else (if x4.size + ((rd_T35 x0 x5).f1).size ≤ 9223372036854775807 then (partitaref18_Print.l0 k x0 (x4 ++ ((rd_T35 x0 x5).f1)) (wrap64 (x5 + 1))) else (none))) else (none)) else (none))
end
def partitaref18_Print.f (k : Nat) (l0 : List (S35)) : Option (ByteArray × Int) := partitaref18_Print.l0 k l0 (⟨#[]⟩ : ByteArray) 0
theorem partitaref18_Print.mono_l : ∀ k, (∀ y0 y1 y2, LeO (partitaref18_Print.l0 k y0 y1 y2) (partitaref18_Print.l0 (k + 1) y0 y1 y2)) ∧ (∀ y0 y1 y2 y3, LeO (partitaref18_Print.j1 k y0 y1 y2 y3) (partitaref18_Print.j1 (k + 1) y0 y1 y2 y3))
 | 0 => ⟨fun _ _ _ r h => by simp [partitaref18_Print.l0] at h, fun _ _ _ _ r h => by simp [partitaref18_Print.j1] at h⟩
 | k + 1 => by
  obtain ⟨ih0, ih1⟩ := partitaref18_Print.mono_l k
  refine ⟨?_, ?_⟩
  · intro y0 y1 y2
    unfold partitaref18_Print.l0
    repeat' first
    | (with_reducible exact ih0 _ _ _)
    | (with_reducible exact ih1 _ _ _ _)
    | (with_reducible exact partitaref18_Quote.mono _ _)
    | (with_reducible exact partitaref18_Right.mono _ _ _ _)
    | (with_reducible exact LeO.refl _)
    | (with_reducible exact LeO.none _)
    | (with_reducible refine LeO.ite ?_ ?_)
    | (with_reducible refine LeO.bind ?_ (fun _ => ?_))
    | exact ih0 _ _ _
    | exact ih1 _ _ _ _
    | exact partitaref18_Quote.mono _ _
    | exact partitaref18_Right.mono _ _ _ _
    | exact LeO.none _
    | refine LeO.ite ?_ ?_
    | refine LeO.bind ?_ (fun _ => ?_)
  · intro y0 y1 y2 y3
    unfold partitaref18_Print.j1
    repeat' first
    | (with_reducible exact ih0 _ _ _)
    | (with_reducible exact ih1 _ _ _ _)
    | (with_reducible exact partitaref18_Quote.mono _ _)
    | (with_reducible exact partitaref18_Right.mono _ _ _ _)
    | (with_reducible exact LeO.refl _)
    | (with_reducible exact LeO.none _)
    | (with_reducible refine LeO.ite ?_ ?_)
    | (with_reducible refine LeO.bind ?_ (fun _ => ?_))
    | exact ih0 _ _ _
    | exact ih1 _ _ _ _
    | exact partitaref18_Quote.mono _ _
    | exact partitaref18_Right.mono _ _ _ _
    | exact LeO.none _
    | refine LeO.ite ?_ ?_
    | refine LeO.bind ?_ (fun _ => ?_)
theorem partitaref18_Print.mono : ∀ a0 k, LeO (partitaref18_Print.f k a0) (partitaref18_Print.f (k + 1) a0) := by
 intro a0 k
 obtain ⟨ih0, ih1⟩ := partitaref18_Print.mono_l k
 unfold partitaref18_Print.f
 repeat' first
  | (with_reducible exact ih0 _ _ _)
  | (with_reducible exact ih1 _ _ _ _)
  | (with_reducible exact partitaref18_Quote.mono _ _)
  | (with_reducible exact partitaref18_Right.mono _ _ _ _)
  | (with_reducible exact LeO.refl _)
  | (with_reducible exact LeO.none _)
  | (with_reducible refine LeO.ite ?_ ?_)
  | (with_reducible refine LeO.bind ?_ (fun _ => ?_))
  | exact ih0 _ _ _
  | exact ih1 _ _ _ _
  | exact partitaref18_Quote.mono _ _
  | exact partitaref18_Right.mono _ _ _ _
  | exact LeO.none _
  | refine LeO.ite ?_ ?_
  | refine LeO.bind ?_ (fun _ => ?_)
set_option maxHeartbeats 8000000 in
set_option maxRecDepth 100000 in
theorem partitaref18_Print.calls (k : Nat) (A0 : Option Addr) (c0 : Nat) (l0 : List (S35)) (r1 : ByteArray) (r2 : Int) (w : World) (hr0 : Kd.C k35 w A0 l0.length l0) (hc0 : l0.length ≤ c0) (h : partitaref18_Print.f k l0 = some (r1, r2)) :
 Calls Tryd.prog 18 #[.slice A0 l0.length c0] w fun e w' => e = .returned (.tuple #[.string r1, .int .i64 r2]) ∧ Below w.heap.size w w' := by
 have hu35 := Tryd.underlying35
 have HR0 := Aside0.mk hr0
 have HC0 := Aside0.mk hc0
 clear hr0 hc0
 have HB := Aside0.mk (Below.refl w.heap.size w)
 have H : (partitaref18_Print.l0 k l0 (⟨#[]⟩ : ByteArray) 0) = some (r1, r2) := h
 clear h
 have H' := Aside0.mk H
 clear H
 go_enter Tryd.func18, Tryd.ntmps18
 go_wp2
 go_loopg [4, 5] k (fun kq v4 v5 w' => ∃ (x4_1 : ByteArray) (x5_1 : Int), v4 = .string x4_1 ∧ v5 = .int .i64 x5_1 ∧ Aside0 (partitaref18_Print.l0 kq l0 x4_1 x5_1 = some (r1, r2)) ∧ Aside0 (kq ≤ k) ∧ Aside0 (Below w.heap.size w w'))
 case atStart => exact ⟨((⟨#[]⟩ : ByteArray)), (0), (by first | rfl | (simp; done) | (simp [*]; done) | (simp [wrap64]; done)), (by first | rfl | (simp; done) | (simp [*]; done) | (simp [wrap64]; done)), H', ⟨Nat.le_refl _⟩, ⟨by repeat (first | (with_reducible first | exact HB.out | apply below_alloc | apply pw_below_drewN | apply below_drew1) | exact HB.out)⟩⟩
 case round =>
  clear H'
  try clear c1
  obtain ⟨x4_1, x5_1, rfl, rfl, HA, HK1, HB⟩ := hrel
  cases gk with
  | zero => exact absurd HA.out (by simp [partitaref18_Print.l0])
  | succ k1 =>
   have H := HA.out
   clear HA
   simp only [partitaref18_Print.l0] at H
   by_cases c2 : x5_1 < (l0.length : Int)
   · rw [if_pos c2] at H
     have c2b0 : decide (x5_1 < (l0.length : Int)) = true := decide_eq_true c2
     clear c2
     by_cases c3 : 0 ≤ x5_1
     · rw [if_pos c3] at H
       have c3b0 : decide (0 ≤ x5_1) = true := decide_eq_true c3
       clear c3
       replace H := Option.bind_eq_some_iff.mp H
       obtain ⟨t229, A40, H⟩ := H
       replace H : (if t229 = true then (if x5_1 > 0 then (if ((rd_T35 l0 x5_1).f0) = 5 then (partitaref18_Print.j1 k1 l0 x4_1 x5_1 false) else (if 0 ≤ (wrap64 (x5_1 - 1)) then (if (wrap64 (x5_1 - 1)) < (l0.length : Int) then (partitaref18_Print.j1 k1 l0 x4_1 x5_1 (((rd_T35 l0 (wrap64 (x5_1 - 1))).f0) != 5)) else (none)) else (none))) else (partitaref18_Print.j1 k1 l0 x4_1 x5_1 false)) else (some ((⟨#[]⟩ : ByteArray), 180))) = some (r1, r2) := H
       have A4 := Aside0.mk A40
       clear A40
       by_cases c5 : t229 = true
       · subst c5
         have H1 : (if x5_1 > 0 then (if ((rd_T35 l0 x5_1).f0) = 5 then (partitaref18_Print.j1 k1 l0 x4_1 x5_1 false) else (if 0 ≤ (wrap64 (x5_1 - 1)) then (if (wrap64 (x5_1 - 1)) < (l0.length : Int) then (partitaref18_Print.j1 k1 l0 x4_1 x5_1 (((rd_T35 l0 (wrap64 (x5_1 - 1))).f0) != 5)) else (none)) else (none))) else (partitaref18_Print.j1 k1 l0 x4_1 x5_1 false)) = some (r1, r2) := by rw [if_pos rfl] at H; exact H
         clear H
         have H := H1
         clear H1
         have HC6 := Aside0.mk H
         clear H
         have p228 : 0 ≤ (x5_1 : Int) := of_decide_eq_true (by first | (with_reducible assumption) | assumption)
         have q228 : x5_1 < (l0.length : Int) := of_decide_eq_true (by first | (with_reducible assumption) | assumption)
         obtain ⟨ad228, e228, hx228_0, hx228_1, hx228_2⟩ := at_T35 HR0.out x5_1 p228 q228
         cases e228
         replace hx228_0 := (HB.out.cell (World.block_lt_of_cell? w _ hx228_0)).trans hx228_0
         replace hx228_1 := (HB.out.cell (World.block_lt_of_cell? w _ hx228_1)).trans hx228_1
         replace hx228_2 := (HB.out.cell (World.block_lt_of_cell? w _ hx228_2)).trans hx228_2
         replace p228 := eq_true p228
         replace q228 := eq_true q228
         go_upto_region 7 with (first | ((with_reducible refine gate_callee (f := 31) rfl ?_); refine goesL_ (some 18) rfl rfl Tryd.func31 (by kernel_rfl) rfl #[.agg #[.int .i64 ((rd_T35 l0 x5_1).f0), .string ((rd_T35 l0 x5_1).f1), .int .i64 ((rd_T35 l0 x5_1).f2)]] rfl (by (try simp only [List.map_toArray, List.map_cons, List.map_nil]); first | done | rfl | (simp only [List.length_drop, List.length_take]; rfl)) ?_; (with_reducible refine (partitaref18_Right.calls k1 ((rd_T35 l0 x5_1).f0) ((rd_T35 l0 x5_1).f1) ((rd_T35 l0 x5_1).f2) true _ A4.out).mono ?_); rintro e w7 ⟨rfl, hb⟩; refine ⟨_, rfl, ?_⟩; have n0_ := Aside0.mk (below_step (by repeat (first | (with_reducible first | exact HB.out | apply below_alloc | apply pw_below_drewN | apply below_drew1) | exact HB.out)) hb); clear HB; have HB := n0_; clear n0_; (try clear hb); (try clear hb2); (try clear hk); (try clear hi)))
         (try simp only [Act.put, qa_, qz_, qs_])
         go_cut [38] (fun v38 wc => ∃ (kq : Nat) (x38_5 : Bool), v38 = .bool x38_5 ∧ Aside0 (partitaref18_Print.j1 kq l0 x4_1 x5_1 x38_5 = some (r1, r2)) ∧ Aside0 (kq ≤ k1) ∧ Aside0 (Below w.heap.size w wc))
         case first =>
          have H := HC6.out
          clear HC6
          by_cases c8 : x5_1 > 0
          · rw [if_pos c8] at H
            have c8b0 : decide (0 < x5_1) = true := decide_eq_true c8
            clear c8
            (first | rw [c8b0] | (simp only [i64_w, i32_w]; rw [c8b0]) | skip)
            by_cases c9 : ((rd_T35 l0 x5_1).f0) = 5
            · rw [if_pos c9] at H
              have c9b0 : (((rd_T35 l0 x5_1).f0) == 5) = true := beq_iff_eq.mpr c9
              have c9b1 : (((rd_T35 l0 x5_1).f0) != 5) = false := bne_eq_false_iff_eq.mpr c9
              clear c9
              have H' := Aside0.mk H
              clear H
              have p230 : 0 ≤ (x5_1 : Int) := of_decide_eq_true (by first | (with_reducible assumption) | assumption)
              have q230 : x5_1 < (l0.length : Int) := of_decide_eq_true (by first | (with_reducible assumption) | assumption)
              obtain ⟨ad230, e230, hx230_0, hx230_1, hx230_2⟩ := at_T35 HR0.out x5_1 p230 q230
              obtain rfl : ad228 = ad230 := (by injection e230)
              replace hx230_0 := (HB.out.cell (World.block_lt_of_cell? w _ hx230_0)).trans hx230_0
              replace hx230_1 := (HB.out.cell (World.block_lt_of_cell? w _ hx230_1)).trans hx230_1
              replace hx230_2 := (HB.out.cell (World.block_lt_of_cell? w _ hx230_2)).trans hx230_2
              replace p230 := eq_true p230
              replace q230 := eq_true q230
              go_wp2
              go_meet
              case rel => exact ⟨_, (false), (by first | rfl | (simp; done) | (simp [*]; done) | (simp [wrap64]; done)), H', ⟨by have := HK1.out; first | omega | exact Nat.le_refl _⟩, ⟨by repeat (first | (with_reducible first | exact HB.out | apply below_alloc | apply pw_below_drewN | apply below_drew1) | exact HB.out)⟩⟩
            · rw [if_neg c9] at H
              have c9b0 : (((rd_T35 l0 x5_1).f0) == 5) = false := beq_eq_false_iff_ne.mpr c9
              have c9b1 : (((rd_T35 l0 x5_1).f0) != 5) = true := bne_iff_ne.mpr c9
              obtain ⟨ji10, hji10⟩ : ∃ j_ : Int, (wrap64 (x5_1 - 1)) = j_ := ⟨_, rfl⟩
              replace H : (if 0 ≤ (ji10) then (if (ji10) < (l0.length : Int) then (partitaref18_Print.j1 k1 l0 x4_1 x5_1 (((rd_T35 l0 (ji10)).f0) != 5)) else (none)) else (none)) = some (r1, r2) := by first | (rw [hji10] at H; exact H) | (simp only [hji10] at H ⊢; exact H)
              have hji10w : (IntKind.i64.wrap (x5_1 - 1)) = ji10 := (i64_w _).trans hji10
              by_cases c11 : 0 ≤ (ji10)
              · rw [if_pos c11] at H
                have c11b0 : decide (0 ≤ (ji10)) = true := decide_eq_true c11
                clear c11
                by_cases c12 : (ji10) < (l0.length : Int)
                · rw [if_pos c12] at H
                  have c12b0 : decide ((ji10) < (l0.length : Int)) = true := decide_eq_true c12
                  clear c12
                  have H' := Aside0.mk H
                  clear H
                  have p230 : 0 ≤ (x5_1 : Int) := of_decide_eq_true (by first | (with_reducible assumption) | assumption)
                  have q230 : x5_1 < (l0.length : Int) := of_decide_eq_true (by first | (with_reducible assumption) | assumption)
                  obtain ⟨ad230, e230, hx230_0, hx230_1, hx230_2⟩ := at_T35 HR0.out x5_1 p230 q230
                  obtain rfl : ad228 = ad230 := (by injection e230)
                  replace hx230_0 := (HB.out.cell (World.block_lt_of_cell? w _ hx230_0)).trans hx230_0
                  replace hx230_1 := (HB.out.cell (World.block_lt_of_cell? w _ hx230_1)).trans hx230_1
                  replace hx230_2 := (HB.out.cell (World.block_lt_of_cell? w _ hx230_2)).trans hx230_2
                  replace p230 := eq_true p230
                  replace q230 := eq_true q230
                  have p231 : 0 ≤ ((ji10) : Int) := of_decide_eq_true (by first | (with_reducible assumption) | assumption)
                  have q231 : (ji10) < (l0.length : Int) := of_decide_eq_true (by first | (with_reducible assumption) | assumption)
                  obtain ⟨ad231, e231, hx231_0, hx231_1, hx231_2⟩ := at_T35 HR0.out (ji10) p231 q231
                  obtain rfl : ad228 = ad231 := (by injection e231)
                  replace hx231_0 := (HB.out.cell (World.block_lt_of_cell? w _ hx231_0)).trans hx231_0
                  replace hx231_1 := (HB.out.cell (World.block_lt_of_cell? w _ hx231_1)).trans hx231_1
                  replace hx231_2 := (HB.out.cell (World.block_lt_of_cell? w _ hx231_2)).trans hx231_2
                  replace p231 := eq_true p231
                  replace q231 := eq_true q231
                  go_wp2
                  go_meet
                  case rel => exact ⟨_, ((((rd_T35 l0 (ji10)).f0) != 5)), (by first | rfl | (simp; done) | (simp only [← hji10] <;> (first | rfl | simp)) | (simp [*]; done)), H', ⟨by have := HK1.out; first | omega | exact Nat.le_refl _⟩, ⟨by repeat (first | (with_reducible first | exact HB.out | apply below_alloc | apply pw_below_drewN | apply below_drew1) | exact HB.out)⟩⟩
                · rw [if_neg c12] at H
                  exact absurd H (by simp)
              · rw [if_neg c11] at H
                exact absurd H (by simp)
          · rw [if_neg c8] at H
            have c8b0 : decide (0 < x5_1) = false := decide_eq_false c8
            clear c8
            (first | rw [c8b0] | (simp only [i64_w, i32_w]; rw [c8b0]) | skip)
            have H' := Aside0.mk H
            clear H
            go_wp2
            go_meet
            case rel => exact ⟨_, (false), (by first | rfl | (simp; done) | (simp [*]; done) | (simp [wrap64]; done)), H', ⟨by have := HK1.out; first | omega | exact Nat.le_refl _⟩, ⟨by repeat (first | (with_reducible first | exact HB.out | apply below_alloc | apply pw_below_drewN | apply below_drew1) | exact HB.out)⟩⟩
         case rest =>
          clear HC6
          try clear c1
          try clear c2
          try clear c2b0
          try clear p2
          try clear q2
          try clear hx2
          try clear c3
          try clear c3b0
          try clear c5
          try clear p6
          try clear c8
          try clear c8b0
          try clear c9
          try clear c9b0
          try clear c9b1
          try clear c11
          try clear c11b0
          try clear c12
          try clear c12b0
          try clear hx228_0
          try clear hx228_1
          try clear hx228_2
          try clear hx230_0
          try clear hx230_1
          try clear hx230_2
          try clear hx231_0
          try clear hx231_1
          try clear hx231_2
          try clear p228
          try clear p230
          try clear p231
          try clear q228
          try clear q230
          try clear q231
          obtain ⟨kq, x38_5, rfl, HA, HJ5, HB⟩ := hcut
          cases kq with
          | zero => exact absurd HA.out (by simp [partitaref18_Print.j1])
          | succ kj5 =>
           have H := HA.out
           clear HA
           simp only [partitaref18_Print.j1] at H
           by_cases c13 : x38_5 = true
           · subst c13
             have H1 : (if x4_1.size + 1 ≤ 9223372036854775807 then (if 0 ≤ x5_1 then (if x5_1 < (l0.length : Int) then (if ((rd_T35 l0 x5_1).f0) = 3 then ((partitaref18_Quote.f kj5 ((rd_T35 l0 x5_1).f1)).bind fun bt234 => (if (x4_1 ++ (⟨#[32]⟩ : ByteArray)).size + bt234.1.size ≤ 9223372036854775807 then (partitaref18_Print.l0 kj5 l0 ((x4_1 ++ (⟨#[32]⟩ : ByteArray)) ++ bt234.1) (wrap64 (x5_1 + 1))) else (none))) else (if (x4_1 ++ (⟨#[32]⟩ : ByteArray)).size + ((rd_T35 l0 x5_1).f1).size ≤ 9223372036854775807 then (partitaref18_Print.l0 kj5 l0 ((x4_1 ++ (⟨#[32]⟩ : ByteArray)) ++ ((rd_T35 l0 x5_1).f1)) (wrap64 (x5_1 + 1))) else (none))) else (none)) else (none)) else (none)) = some (r1, r2) := by rw [if_pos rfl] at H; exact H
             clear H
             have H := H1
             clear H1
             by_cases c14 : x4_1.size + 1 ≤ 9223372036854775807
             · rw [if_pos c14] at H
               have c14b0 := eq_true c14
               have c14b1 : decide (x4_1.size + 1 ≤ 9223372036854775807) = true := decide_eq_true c14
               try have c14b2 : (9223372036854775807 < x4_1.size + 1) = False := eq_false (Nat.not_lt.2 c14)
               by_cases c15 : 0 ≤ x5_1
               · rw [if_pos c15] at H
                 have c15b0 : decide (0 ≤ x5_1) = true := decide_eq_true c15
                 clear c15
                 by_cases c16 : x5_1 < (l0.length : Int)
                 · rw [if_pos c16] at H
                   have c16b0 : decide (x5_1 < (l0.length : Int)) = true := decide_eq_true c16
                   clear c16
                   by_cases c17 : ((rd_T35 l0 x5_1).f0) = 3
                   · rw [if_pos c17] at H
                     have c17b0 : (((rd_T35 l0 x5_1).f0) == 3) = true := beq_iff_eq.mpr c17
                     have c17b1 : (((rd_T35 l0 x5_1).f0) != 3) = false := bne_eq_false_iff_eq.mpr c17
                     clear c17
                     replace H := Option.bind_eq_some_iff.mp H
                     obtain ⟨⟨t234, t235⟩, A180, H⟩ := H
                     replace H : (if (x4_1 ++ (⟨#[32]⟩ : ByteArray)).size + t234.size ≤ 9223372036854775807 then (partitaref18_Print.l0 kj5 l0 ((x4_1 ++ (⟨#[32]⟩ : ByteArray)) ++ t234) (wrap64 (x5_1 + 1))) else (none)) = some (r1, r2) := H
                     have A18 := Aside0.mk A180
                     clear A180
                     by_cases c19 : (x4_1 ++ (⟨#[32]⟩ : ByteArray)).size + t234.size ≤ 9223372036854775807
                     · rw [if_pos c19] at H
                       have c19b0 := eq_true c19
                       have c19b1 : decide ((x4_1 ++ (⟨#[32]⟩ : ByteArray)).size + t234.size ≤ 9223372036854775807) = true := decide_eq_true c19
                       try have c19b2 : (9223372036854775807 < (x4_1 ++ (⟨#[32]⟩ : ByteArray)).size + t234.size) = False := eq_false (Nat.not_lt.2 c19)
                       have H' := Aside0.mk H
                       clear H
                       have p232 : 0 ≤ (x5_1 : Int) := of_decide_eq_true (by first | (with_reducible assumption) | assumption)
                       have q232 : x5_1 < (l0.length : Int) := of_decide_eq_true (by first | (with_reducible assumption) | assumption)
                       obtain ⟨ad232, e232, hx232_0, hx232_1, hx232_2⟩ := at_T35 HR0.out x5_1 p232 q232
                       obtain rfl : ad228 = ad232 := (by injection e232)
                       replace hx232_0 := (HB.out.cell (World.block_lt_of_cell? w _ hx232_0)).trans hx232_0
                       replace hx232_1 := (HB.out.cell (World.block_lt_of_cell? w _ hx232_1)).trans hx232_1
                       replace hx232_2 := (HB.out.cell (World.block_lt_of_cell? w _ hx232_2)).trans hx232_2
                       replace p232 := eq_true p232
                       replace q232 := eq_true q232
                       have p233 : 0 ≤ (x5_1 : Int) := of_decide_eq_true (by first | (with_reducible assumption) | assumption)
                       have q233 : x5_1 < (l0.length : Int) := of_decide_eq_true (by first | (with_reducible assumption) | assumption)
                       obtain ⟨ad233, e233, hx233_0, hx233_1, hx233_2⟩ := at_T35 HR0.out x5_1 p233 q233
                       obtain rfl : ad228 = ad233 := (by injection e233)
                       replace hx233_0 := (HB.out.cell (World.block_lt_of_cell? w _ hx233_0)).trans hx233_0
                       replace hx233_1 := (HB.out.cell (World.block_lt_of_cell? w _ hx233_1)).trans hx233_1
                       replace hx233_2 := (HB.out.cell (World.block_lt_of_cell? w _ hx233_2)).trans hx233_2
                       replace p233 := eq_true p233
                       replace q233 := eq_true q233
                       go_wp2_with (first | ((with_reducible refine gate_callee (f := 20) rfl ?_); refine goesL_ (some 53) rfl rfl Tryd.func20 (by kernel_rfl) rfl #[.string ((rd_T35 l0 x5_1).f1)] rfl (by (try simp only [List.map_toArray, List.map_cons, List.map_nil]); first | done | rfl | (simp only [List.length_drop, List.length_take]; rfl)) ?_; (with_reducible refine (partitaref18_Quote.calls kj5 ((rd_T35 l0 x5_1).f1) t234 t235 _ A18.out).mono ?_); rintro e w20 ⟨rfl, hb⟩; refine ⟨_, rfl, ?_⟩; have n0_ := Aside0.mk (below_step (by repeat (first | (with_reducible first | exact HB.out | apply below_alloc | apply pw_below_drewN | apply below_drew1) | exact HB.out)) hb); clear HB; have HB := n0_; clear n0_; (try clear hb); (try clear hb2); (try clear hk); (try clear hi)))
                       go_roundg kj5
                       case measure => have := HK1.out; have := HJ5.out; omega
                       case rel => exact ⟨((x4_1 ++ (⟨#[32]⟩ : ByteArray)) ++ t234), (wrap64 (x5_1 + 1)), (by first | rfl | (simp; done) | (simp [*]; done) | (simp [wrap64]; done)), (by first | rfl | (simp; done) | (simp [*]; done) | (simp [wrap64]; done)), H', ⟨by have := HK1.out; have := HJ5.out; omega⟩, ⟨by repeat (first | (with_reducible first | exact HB.out | apply below_alloc | apply pw_below_drewN | apply below_drew1) | exact HB.out)⟩⟩
                     · rw [if_neg c19] at H
                       exact absurd H (by simp)
                   · rw [if_neg c17] at H
                     have c17b0 : (((rd_T35 l0 x5_1).f0) == 3) = false := beq_eq_false_iff_ne.mpr c17
                     have c17b1 : (((rd_T35 l0 x5_1).f0) != 3) = true := bne_iff_ne.mpr c17
                     by_cases c21 : (x4_1 ++ (⟨#[32]⟩ : ByteArray)).size + ((rd_T35 l0 x5_1).f1).size ≤ 9223372036854775807
                     · rw [if_pos c21] at H
                       have c21b0 := eq_true c21
                       have c21b1 : decide ((x4_1 ++ (⟨#[32]⟩ : ByteArray)).size + ((rd_T35 l0 x5_1).f1).size ≤ 9223372036854775807) = true := decide_eq_true c21
                       try have c21b2 : (9223372036854775807 < (x4_1 ++ (⟨#[32]⟩ : ByteArray)).size + ((rd_T35 l0 x5_1).f1).size) = False := eq_false (Nat.not_lt.2 c21)
                       have H' := Aside0.mk H
                       clear H
                       have p232 : 0 ≤ (x5_1 : Int) := of_decide_eq_true (by first | (with_reducible assumption) | assumption)
                       have q232 : x5_1 < (l0.length : Int) := of_decide_eq_true (by first | (with_reducible assumption) | assumption)
                       obtain ⟨ad232, e232, hx232_0, hx232_1, hx232_2⟩ := at_T35 HR0.out x5_1 p232 q232
                       obtain rfl : ad228 = ad232 := (by injection e232)
                       replace hx232_0 := (HB.out.cell (World.block_lt_of_cell? w _ hx232_0)).trans hx232_0
                       replace hx232_1 := (HB.out.cell (World.block_lt_of_cell? w _ hx232_1)).trans hx232_1
                       replace hx232_2 := (HB.out.cell (World.block_lt_of_cell? w _ hx232_2)).trans hx232_2
                       replace p232 := eq_true p232
                       replace q232 := eq_true q232
                       have p236 : 0 ≤ (x5_1 : Int) := of_decide_eq_true (by first | (with_reducible assumption) | assumption)
                       have q236 : x5_1 < (l0.length : Int) := of_decide_eq_true (by first | (with_reducible assumption) | assumption)
                       obtain ⟨ad236, e236, hx236_0, hx236_1, hx236_2⟩ := at_T35 HR0.out x5_1 p236 q236
                       obtain rfl : ad228 = ad236 := (by injection e236)
                       replace hx236_0 := (HB.out.cell (World.block_lt_of_cell? w _ hx236_0)).trans hx236_0
                       replace hx236_1 := (HB.out.cell (World.block_lt_of_cell? w _ hx236_1)).trans hx236_1
                       replace hx236_2 := (HB.out.cell (World.block_lt_of_cell? w _ hx236_2)).trans hx236_2
                       replace p236 := eq_true p236
                       replace q236 := eq_true q236
                       go_wp2
                       go_roundg kj5
                       case measure => have := HK1.out; have := HJ5.out; omega
                       case rel => exact ⟨((x4_1 ++ (⟨#[32]⟩ : ByteArray)) ++ ((rd_T35 l0 x5_1).f1)), (wrap64 (x5_1 + 1)), (by first | rfl | (simp; done) | (simp [*]; done) | (simp [wrap64]; done)), (by first | rfl | (simp; done) | (simp [*]; done) | (simp [wrap64]; done)), H', ⟨by have := HK1.out; have := HJ5.out; omega⟩, ⟨by repeat (first | (with_reducible first | exact HB.out | apply below_alloc | apply pw_below_drewN | apply below_drew1) | exact HB.out)⟩⟩
                     · rw [if_neg c21] at H
                       exact absurd H (by simp)
                 · rw [if_neg c16] at H
                   exact absurd H (by simp)
               · rw [if_neg c15] at H
                 exact absurd H (by simp)
             · rw [if_neg c14] at H
               exact absurd H (by simp)
           · replace c13 := Bool.eq_false_iff.mpr c13
             subst c13
             have H1 : (if 0 ≤ x5_1 then (if x5_1 < (l0.length : Int) then (if ((rd_T35 l0 x5_1).f0) = 3 then ((partitaref18_Quote.f kj5 ((rd_T35 l0 x5_1).f1)).bind fun bt239 => (if x4_1.size + bt239.1.size ≤ 9223372036854775807 then (partitaref18_Print.l0 kj5 l0 (x4_1 ++ bt239.1) (wrap64 (x5_1 + 1))) else (none))) else (if x4_1.size + ((rd_T35 l0 x5_1).f1).size ≤ 9223372036854775807 then (partitaref18_Print.l0 kj5 l0 (x4_1 ++ ((rd_T35 l0 x5_1).f1)) (wrap64 (x5_1 + 1))) else (none))) else (none)) else (none)) = some (r1, r2) := by rw [if_neg (show ¬ (false = true) by decide)] at H; exact H
             clear H
             have H := H1
             clear H1
             by_cases c22 : 0 ≤ x5_1
             · rw [if_pos c22] at H
               have c22b0 : decide (0 ≤ x5_1) = true := decide_eq_true c22
               clear c22
               by_cases c23 : x5_1 < (l0.length : Int)
               · rw [if_pos c23] at H
                 have c23b0 : decide (x5_1 < (l0.length : Int)) = true := decide_eq_true c23
                 clear c23
                 by_cases c24 : ((rd_T35 l0 x5_1).f0) = 3
                 · rw [if_pos c24] at H
                   have c24b0 : (((rd_T35 l0 x5_1).f0) == 3) = true := beq_iff_eq.mpr c24
                   have c24b1 : (((rd_T35 l0 x5_1).f0) != 3) = false := bne_eq_false_iff_eq.mpr c24
                   clear c24
                   replace H := Option.bind_eq_some_iff.mp H
                   obtain ⟨⟨t239, t240⟩, A250, H⟩ := H
                   replace H : (if x4_1.size + t239.size ≤ 9223372036854775807 then (partitaref18_Print.l0 kj5 l0 (x4_1 ++ t239) (wrap64 (x5_1 + 1))) else (none)) = some (r1, r2) := H
                   have A25 := Aside0.mk A250
                   clear A250
                   by_cases c26 : x4_1.size + t239.size ≤ 9223372036854775807
                   · rw [if_pos c26] at H
                     have c26b0 := eq_true c26
                     have c26b1 : decide (x4_1.size + t239.size ≤ 9223372036854775807) = true := decide_eq_true c26
                     try have c26b2 : (9223372036854775807 < x4_1.size + t239.size) = False := eq_false (Nat.not_lt.2 c26)
                     have H' := Aside0.mk H
                     clear H
                     have p237 : 0 ≤ (x5_1 : Int) := of_decide_eq_true (by first | (with_reducible assumption) | assumption)
                     have q237 : x5_1 < (l0.length : Int) := of_decide_eq_true (by first | (with_reducible assumption) | assumption)
                     obtain ⟨ad237, e237, hx237_0, hx237_1, hx237_2⟩ := at_T35 HR0.out x5_1 p237 q237
                     obtain rfl : ad228 = ad237 := (by injection e237)
                     replace hx237_0 := (HB.out.cell (World.block_lt_of_cell? w _ hx237_0)).trans hx237_0
                     replace hx237_1 := (HB.out.cell (World.block_lt_of_cell? w _ hx237_1)).trans hx237_1
                     replace hx237_2 := (HB.out.cell (World.block_lt_of_cell? w _ hx237_2)).trans hx237_2
                     replace p237 := eq_true p237
                     replace q237 := eq_true q237
                     have p238 : 0 ≤ (x5_1 : Int) := of_decide_eq_true (by first | (with_reducible assumption) | assumption)
                     have q238 : x5_1 < (l0.length : Int) := of_decide_eq_true (by first | (with_reducible assumption) | assumption)
                     obtain ⟨ad238, e238, hx238_0, hx238_1, hx238_2⟩ := at_T35 HR0.out x5_1 p238 q238
                     obtain rfl : ad228 = ad238 := (by injection e238)
                     replace hx238_0 := (HB.out.cell (World.block_lt_of_cell? w _ hx238_0)).trans hx238_0
                     replace hx238_1 := (HB.out.cell (World.block_lt_of_cell? w _ hx238_1)).trans hx238_1
                     replace hx238_2 := (HB.out.cell (World.block_lt_of_cell? w _ hx238_2)).trans hx238_2
                     replace p238 := eq_true p238
                     replace q238 := eq_true q238
                     go_wp2_with (first | ((with_reducible refine gate_callee (f := 20) rfl ?_); refine goesL_ (some 53) rfl rfl Tryd.func20 (by kernel_rfl) rfl #[.string ((rd_T35 l0 x5_1).f1)] rfl (by (try simp only [List.map_toArray, List.map_cons, List.map_nil]); first | done | rfl | (simp only [List.length_drop, List.length_take]; rfl)) ?_; (with_reducible refine (partitaref18_Quote.calls kj5 ((rd_T35 l0 x5_1).f1) t239 t240 _ A25.out).mono ?_); rintro e w27 ⟨rfl, hb⟩; refine ⟨_, rfl, ?_⟩; have n0_ := Aside0.mk (below_step (by repeat (first | (with_reducible first | exact HB.out | apply below_alloc | apply pw_below_drewN | apply below_drew1) | exact HB.out)) hb); clear HB; have HB := n0_; clear n0_; (try clear hb); (try clear hb2); (try clear hk); (try clear hi)))
                     go_roundg kj5
                     case measure => have := HK1.out; have := HJ5.out; omega
                     case rel => exact ⟨(x4_1 ++ t239), (wrap64 (x5_1 + 1)), (by first | rfl | (simp; done) | (simp [*]; done) | (simp [wrap64]; done)), (by first | rfl | (simp; done) | (simp [*]; done) | (simp [wrap64]; done)), H', ⟨by have := HK1.out; have := HJ5.out; omega⟩, ⟨by repeat (first | (with_reducible first | exact HB.out | apply below_alloc | apply pw_below_drewN | apply below_drew1) | exact HB.out)⟩⟩
                   · rw [if_neg c26] at H
                     exact absurd H (by simp)
                 · rw [if_neg c24] at H
                   have c24b0 : (((rd_T35 l0 x5_1).f0) == 3) = false := beq_eq_false_iff_ne.mpr c24
                   have c24b1 : (((rd_T35 l0 x5_1).f0) != 3) = true := bne_iff_ne.mpr c24
                   by_cases c28 : x4_1.size + ((rd_T35 l0 x5_1).f1).size ≤ 9223372036854775807
                   · rw [if_pos c28] at H
                     have c28b0 := eq_true c28
                     have c28b1 : decide (x4_1.size + ((rd_T35 l0 x5_1).f1).size ≤ 9223372036854775807) = true := decide_eq_true c28
                     try have c28b2 : (9223372036854775807 < x4_1.size + ((rd_T35 l0 x5_1).f1).size) = False := eq_false (Nat.not_lt.2 c28)
                     have H' := Aside0.mk H
                     clear H
                     have p237 : 0 ≤ (x5_1 : Int) := of_decide_eq_true (by first | (with_reducible assumption) | assumption)
                     have q237 : x5_1 < (l0.length : Int) := of_decide_eq_true (by first | (with_reducible assumption) | assumption)
                     obtain ⟨ad237, e237, hx237_0, hx237_1, hx237_2⟩ := at_T35 HR0.out x5_1 p237 q237
                     obtain rfl : ad228 = ad237 := (by injection e237)
                     replace hx237_0 := (HB.out.cell (World.block_lt_of_cell? w _ hx237_0)).trans hx237_0
                     replace hx237_1 := (HB.out.cell (World.block_lt_of_cell? w _ hx237_1)).trans hx237_1
                     replace hx237_2 := (HB.out.cell (World.block_lt_of_cell? w _ hx237_2)).trans hx237_2
                     replace p237 := eq_true p237
                     replace q237 := eq_true q237
                     have p241 : 0 ≤ (x5_1 : Int) := of_decide_eq_true (by first | (with_reducible assumption) | assumption)
                     have q241 : x5_1 < (l0.length : Int) := of_decide_eq_true (by first | (with_reducible assumption) | assumption)
                     obtain ⟨ad241, e241, hx241_0, hx241_1, hx241_2⟩ := at_T35 HR0.out x5_1 p241 q241
                     obtain rfl : ad228 = ad241 := (by injection e241)
                     replace hx241_0 := (HB.out.cell (World.block_lt_of_cell? w _ hx241_0)).trans hx241_0
                     replace hx241_1 := (HB.out.cell (World.block_lt_of_cell? w _ hx241_1)).trans hx241_1
                     replace hx241_2 := (HB.out.cell (World.block_lt_of_cell? w _ hx241_2)).trans hx241_2
                     replace p241 := eq_true p241
                     replace q241 := eq_true q241
                     go_wp2
                     go_roundg kj5
                     case measure => have := HK1.out; have := HJ5.out; omega
                     case rel => exact ⟨(x4_1 ++ ((rd_T35 l0 x5_1).f1)), (wrap64 (x5_1 + 1)), (by first | rfl | (simp; done) | (simp [*]; done) | (simp [wrap64]; done)), (by first | rfl | (simp; done) | (simp [*]; done) | (simp [wrap64]; done)), H', ⟨by have := HK1.out; have := HJ5.out; omega⟩, ⟨by repeat (first | (with_reducible first | exact HB.out | apply below_alloc | apply pw_below_drewN | apply below_drew1) | exact HB.out)⟩⟩
                   · rw [if_neg c28] at H
                     exact absurd H (by simp)
               · rw [if_neg c23] at H
                 exact absurd H (by simp)
             · rw [if_neg c22] at H
               exact absurd H (by simp)
       · replace c5 := Bool.eq_false_iff.mpr c5
         subst c5
         have H1 : (some ((⟨#[]⟩ : ByteArray), 180)) = some (r1, r2) := by rw [if_neg (show ¬ (false = true) by decide)] at H; exact H
         clear H
         have H := H1
         clear H1
         simp only [Option.some.injEq, Prod.mk.injEq] at H
         obtain ⟨rfl, rfl⟩ := H
         have p228 : 0 ≤ (x5_1 : Int) := of_decide_eq_true (by first | (with_reducible assumption) | assumption)
         have q228 : x5_1 < (l0.length : Int) := of_decide_eq_true (by first | (with_reducible assumption) | assumption)
         obtain ⟨ad228, e228, hx228_0, hx228_1, hx228_2⟩ := at_T35 HR0.out x5_1 p228 q228
         cases e228
         replace hx228_0 := (HB.out.cell (World.block_lt_of_cell? w _ hx228_0)).trans hx228_0
         replace hx228_1 := (HB.out.cell (World.block_lt_of_cell? w _ hx228_1)).trans hx228_1
         replace hx228_2 := (HB.out.cell (World.block_lt_of_cell? w _ hx228_2)).trans hx228_2
         replace p228 := eq_true p228
         replace q228 := eq_true q228
         go_wp2_with (first | ((with_reducible refine gate_callee (f := 31) rfl ?_); refine goesL_ (some 18) rfl rfl Tryd.func31 (by kernel_rfl) rfl #[.agg #[.int .i64 ((rd_T35 l0 x5_1).f0), .string ((rd_T35 l0 x5_1).f1), .int .i64 ((rd_T35 l0 x5_1).f2)]] rfl (by (try simp only [List.map_toArray, List.map_cons, List.map_nil]); first | done | rfl | (simp only [List.length_drop, List.length_take]; rfl)) ?_; (with_reducible refine (partitaref18_Right.calls k1 ((rd_T35 l0 x5_1).f0) ((rd_T35 l0 x5_1).f1) ((rd_T35 l0 x5_1).f2) false _ A4.out).mono ?_); rintro e w29 ⟨rfl, hb⟩; refine ⟨_, rfl, ?_⟩; have n0_ := Aside0.mk (below_step (by repeat (first | (with_reducible first | exact HB.out | apply below_alloc | apply pw_below_drewN | apply below_drew1) | exact HB.out)) hb); clear HB; have HB := n0_; clear n0_; (try clear hb); (try clear hb2); (try clear hk); (try clear hi)))
         go_ret2
         exact ⟨by first | rfl | (simp [errW_none, errW_some] <;> rfl) | (simp [*, errW_none, errW_some] <;> rfl), by repeat (first | (with_reducible first | exact HB.out | apply below_alloc | apply pw_below_drewN | apply below_drew1) | exact HB.out)⟩
     · rw [if_neg c3] at H
       exact absurd H (by simp)
   · rw [if_neg c2] at H
     have c2b0 : decide (x5_1 < (l0.length : Int)) = false := decide_eq_false c2
     clear c2
     simp only [Option.some.injEq, Prod.mk.injEq] at H
     obtain ⟨rfl, rfl⟩ := H
     go_wp2
     go_ret2
     exact ⟨by first | rfl | (simp [errW_none, errW_some] <;> rfl) | (simp [*, errW_none, errW_some] <;> rfl), by repeat (first | (with_reducible first | exact HB.out | apply below_alloc | apply pw_below_drewN | apply below_drew1) | exact HB.out)⟩

end Go.Proofs.YtllccnijipgncaaDoor.Q
