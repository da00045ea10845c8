-- Written by a program of this session (myprint.py), function by function.
import Derived.Test.YtocjbedacnlaaaaGreatDoorQ0
import Derived.Test.YtocjbedacnlaaaaGreatDoorQ4
import Derived.Test.YtocjbedacnlaaaaGreatDoorQ5
import Derived.Test.YtocjbedacnlaaaaGreatDoorQ6
import Derived.Shelf.Abstract
import Derived.Test.YtocjbedacnlaaaaGreatDoorHandA
namespace Go.Proofs.YtocjbedacnlaaaaGreatDoor.Q
open Go.RowKit Go.Proofs.YtocjbedacnlaaaaGreatDoorW.PrintWords Go.Proofs.YtocjbedacnlaaaaGreatDoorW.PrintLast Go.Proofs.YtocjbedacnlaaaaGreatDoorW.PrintMore
attribute [local go_sem] max2_int min2_int max_two min_two max_three min_three max_four min_four   -- for this text's walks alone
set_option linter.unusedVariables false
set_option linter.unusedSimpArgs false

/-! ### value_Length: function 83 -/
/-- By how much a length is greater with dots. -/
def dotN (d : Int) : Int := ([1, 3, 7] : List Int).getD d.toNat 0
def dotD (d : Int) : Int := ([1, 2, 4] : List Int).getD d.toNat 0
def lenT (b d n m : Int) : Int × Int := if n = 0 then (dotN d, dotD d * 2 ^ b.toNat) else (wrap64 (dotN d * m), wrap64 (dotD d * 2 ^ b.toNat * n))
def value_Length.f (k : Nat) (a0_0 : Int) (a0_1 : Int) (a0_2 : Int) (a0_3 : Int) : Option (Int × Int × Int) := (value_Right.f k a0_0 a0_1 a0_2 a0_3).bind fun t => if t = true then (if 0 ≤ a0_0 ∧ a0_0 ≤ 6 ∧ 0 ≤ a0_1 ∧ a0_1 ≤ 2 ∧ (a0_2 = 0 ∧ a0_3 = 0 ∨ 1 ≤ a0_2 ∧ a0_2 ≤ 15 ∧ 1 ≤ a0_3 ∧ a0_3 ≤ 15) then ratio_Of.f (lenT a0_0 a0_1 a0_2 a0_3).1 (lenT a0_0 a0_1 a0_2 a0_3).2 else none) else some (0, 0, 40)
theorem value_Length.mono : ∀ a0 a1 a2 a3 k, LeO (value_Length.f k a0 a1 a2 a3) (value_Length.f (k + 1) a0 a1 a2 a3) := by
  intro a0 a1 a2 a3 k
  unfold value_Length.f
  exact LeO.bind (value_Right.mono _ _ _ _ _) (fun _ => LeO.refl _)
theorem dot_tab (d : Nat) (h : d ≤ 2) : ([1, 1, 3, 2, 7, 4] : List Int)[d * 2]? = some (dotN d) ∧ ([1, 1, 3, 2, 7, 4] : List Int)[d * 2 + 1]? = some (dotD d) ∧ 1 ≤ dotN d ∧ dotN d ≤ 7 ∧ 1 ≤ dotD d ∧ dotD d ≤ 4 := by
  have : ∀ k : Fin 3, ([1, 1, 3, 2, 7, 4] : List Int)[(k : Nat) * 2]? = some (dotN (k : Nat)) ∧ ([1, 1, 3, 2, 7, 4] : List Int)[(k : Nat) * 2 + 1]? = some (dotD (k : Nat)) ∧ 1 ≤ dotN (k : Nat) ∧ dotN (k : Nat) ≤ 7 ∧ 1 ≤ dotD (k : Nat) ∧ dotD (k : Nat) ≤ 4 := by decide
  exact this ⟨d, by omega⟩
theorem pow_bd (b : Nat) (h : b ≤ 6) : 1 ≤ (2 : Int) ^ b ∧ (2 : Int) ^ b ≤ 64 := by
  have : ∀ k : Fin 7, 1 ≤ (2 : Int) ^ (k : Nat) ∧ (2 : Int) ^ (k : Nat) ≤ 64 := by decide
  exact this ⟨b, by omega⟩
theorem value_Length.calls (k : Nat) (a0_0 : Int) (a0_1 : Int) (a0_2 : Int) (a0_3 : Int) (r1 r2 r3 : Int) (w : World) (h : value_Length.f k a0_0 a0_1 a0_2 a0_3 = some (r1, r2, r3)) (SENTS : Aside0 (SentsE w) := by exact sents_step (by assumption) (by repeat (first | (with_reducible first | exact (by assumption : Aside0 (Below _ _ _)).out | apply below_alloc | apply pw_below_drewN | apply below_drew1)))) :
 Calls Tryz.prog 83 #[.agg #[.int .i64 a0_0, .int .i64 a0_1, .int .i64 a0_2, .int .i64 a0_3]] w fun e w' => e = .returned (.tuple #[.agg #[.int .i64 r1, .int .i64 r2], .int .i64 r3]) ∧ Below w.heap.size w w' := by
  unfold value_Length.f at h
  obtain ⟨t, hT, h⟩ := Option.bind_eq_some_iff.mp h
  have HR := fun W (_ : Below w.heap.size w W) => value_Right.calls k a0_0 a0_1 a0_2 a0_3 t W hT
  cases t with
  | false =>
    simp only [Bool.false_eq_true, if_false, Option.some.injEq, Prod.mk.injEq] at h
    obtain ⟨rfl, rfl, rfl⟩ := h
    exact length_no _ _ _ _ w HR
  | true =>
    simp only [if_true] at h
    split at h
    case isFalse => cases h
    rename_i hgood
    obtain ⟨b1, b2, d1, d2, hnm⟩ := hgood
    obtain ⟨b, rfl⟩ : ∃ s : Nat, a0_0 = s := ⟨a0_0.toNat, by omega⟩
    obtain ⟨d, rfl⟩ : ∃ s : Nat, a0_1 = s := ⟨a0_1.toNat, by omega⟩
    obtain ⟨t1, t2, x0, x1, y0, y1⟩ := dot_tab d (by omega)
    obtain ⟨p0, p1⟩ := pow_bd b (by omega)
    have z0 : 1 ≤ dotD d * 2 ^ b := by have := Int.mul_le_mul y0 p0 (by omega) (by omega); omega
    have z1 : dotD d * 2 ^ b ≤ 256 := by have := Int.mul_le_mul y1 p1 (by omega) (by omega); omega
    rcases hnm with ⟨rfl, rfl⟩ | ⟨n0, n1, m0, m1⟩
    · simp only [lenT, if_true, Int.toNat_natCast] at h
      exact length_plain b d _ _ _ r1 r2 r3 w (by omega) (by omega) x0 x1 y0 y1 rfl z0 z1 (SENTS.out.dot _ _ t1) (SENTS.out.dot _ _ t2) HR (fun W => ratio_Of.calls _ _ r1 r2 r3 W h)
    · simp only [lenT, if_neg (show ¬ a0_2 = 0 by omega), Int.toNat_natCast] at h
      exact length_one a0_2 a0_3 b d _ _ _ r1 r2 r3 w (by omega) (by omega) x0 x1 y0 y1 rfl z0 z1 n0 n1 m0 m1 (SENTS.out.dot _ _ t1) (SENTS.out.dot _ _ t2) HR (fun W => ratio_Of.calls _ _ r1 r2 r3 W h)

/-! ### event_Length: function 60 -/
def event_Length.f (k : Nat) (a0_0 : Int) (l0_1 : List (S43)) (l0_2 : List Bool) (a0_3 : Int) (a0_4 : Int) (a0_5 : Int) (a0_6 : Int) (l0_7 : List Int) (a0_8 : ByteArray) : Option (Int × Int × Int) := (event_Right.f k a0_0 l0_1 l0_2 a0_3 a0_4 a0_5 a0_6 l0_7 a0_8).bind fun t194 => (if t194 = true then ((value_Length.f k a0_3 a0_4 a0_5 a0_6).bind fun bt195 => (some (bt195.1, bt195.2.1, bt195.2.2))) else (some (0, 0, 60)))
theorem event_Length.mono : ∀ a0 a1 a2 a3 a4 a5 a6 a7 a8 k, LeO (event_Length.f k a0 a1 a2 a3 a4 a5 a6 a7 a8) (event_Length.f (k + 1) a0 a1 a2 a3 a4 a5 a6 a7 a8) := by
 intro a0 a1 a2 a3 a4 a5 a6 a7 a8 k
 unfold event_Length.f
 repeat' first
  | (with_reducible exact event_Right.mono _ _ _ _ _ _ _ _ _ _)
  | (with_reducible exact value_Length.mono _ _ _ _ _)
  | (with_reducible exact LeO.refl _)
  | (with_reducible exact LeO.none _)
  | (with_reducible refine LeO.ite ?_ ?_)
  | (with_reducible refine LeO.bind ?_ (fun _ => ?_))
  | exact event_Right.mono _ _ _ _ _ _ _ _ _ _
  | exact value_Length.mono _ _ _ _ _
  | exact LeO.none _
  | refine LeO.ite ?_ ?_
  | refine LeO.bind ?_ (fun _ => ?_)
set_option maxHeartbeats 8000000 in
set_option maxRecDepth 100000 in
theorem event_Length.calls (k : Nat) (a0_0 : Int) (A0_1 : Option Addr) (c0_1 : Nat) (l0_1 : List (S43)) (A0_2 : Option Addr) (c0_2 : Nat) (l0_2 : List Bool) (a0_3 : Int) (a0_4 : Int) (a0_5 : Int) (a0_6 : Int) (A0_7 : Option Addr) (c0_7 : Nat) (l0_7 : List Int) (a0_8 : ByteArray) (r1 : Int) (r2 : Int) (r3 : Int) (w : World) (hr0_1 : Kd.C k43 w A0_1 l0_1.length l0_1) (hc0_1 : l0_1.length ≤ c0_1) (hr0_2 : Kd.C Kd.bool w A0_2 l0_2.length l0_2) (hc0_2 : l0_2.length ≤ c0_2) (hr0_7 : Kd.C (Kd.int .i64) w A0_7 l0_7.length l0_7) (hc0_7 : l0_7.length ≤ c0_7) (h : event_Length.f k a0_0 l0_1 l0_2 a0_3 a0_4 a0_5 a0_6 l0_7 a0_8 = some (r1, r2, r3)) (SENTS : Aside0 (SentsE w) := by exact sents_step (by assumption) (by repeat (first | (with_reducible first | exact (by assumption : Aside0 (Below _ _ _)).out | apply below_alloc | apply pw_below_drewN | apply below_drew1 | refine below_set ?_ (Aside0.out (by assumption)))))) :
 Calls Tryz.prog 60 #[.agg #[.int .i64 a0_0, .slice A0_1 l0_1.length c0_1, .slice A0_2 l0_2.length c0_2, .int .i64 a0_3, .int .i64 a0_4, .int .i64 a0_5, .int .i64 a0_6, .slice A0_7 l0_7.length c0_7, .string a0_8]] w fun e w' => e = .returned (.tuple #[.agg #[.int .i64 r1, .int .i64 r2], .int .i64 r3]) ∧ Below w.heap.size w w' := by
 have hu41 := Tryz.underlying41
 have hu72 := Tryz.underlying72
 have hu39 := Tryz.underlying39
 have HR0_1 := Aside0.mk hr0_1
 have HC0_1 := Aside0.mk hc0_1
 clear hr0_1 hc0_1
 have HR0_2 := Aside0.mk hr0_2
 have HC0_2 := Aside0.mk hc0_2
 clear hr0_2 hc0_2
 have HR0_7 := Aside0.mk hr0_7
 have HC0_7 := Aside0.mk hc0_7
 clear hr0_7 hc0_7
 have HB := Aside0.mk (Below.refl w.heap.size w)
 have H : ((event_Right.f k a0_0 l0_1 l0_2 a0_3 a0_4 a0_5 a0_6 l0_7 a0_8).bind fun t194 => (if t194 = true then ((value_Length.f k a0_3 a0_4 a0_5 a0_6).bind fun bt195 => (some (bt195.1, bt195.2.1, bt195.2.2))) else (some (0, 0, 60)))) = some (r1, r2, r3) := h
 clear h
 replace H := Option.bind_eq_some_iff.mp H
 obtain ⟨t194, A20, H⟩ := H
 replace H : (if t194 = true then ((value_Length.f k a0_3 a0_4 a0_5 a0_6).bind fun bt195 => (some (bt195.1, bt195.2.1, bt195.2.2))) else (some (0, 0, 60))) = some (r1, r2, r3) := H
 have A2 := Aside0.mk A20
 clear A20
 by_cases c3 : t194 = true
 · subst c3
   have H1 : ((value_Length.f k a0_3 a0_4 a0_5 a0_6).bind fun bt195 => (some (bt195.1, bt195.2.1, bt195.2.2))) = some (r1, r2, r3) := by rw [if_pos rfl] at H; exact H
   clear H
   have H := H1
   clear H1
   replace H := Option.bind_eq_some_iff.mp H
   obtain ⟨⟨t195, t196, t197⟩, A40, H⟩ := H
   replace H : (some (t195, t196, t197)) = some (r1, r2, r3) := H
   have A4 := Aside0.mk A40
   clear A40
   simp only [Option.some.injEq, Prod.mk.injEq] at H
   obtain ⟨rfl, rfl, rfl⟩ := H
   go_enter Tryz.func60, Tryz.ntmps60
   go_wp2_with (first | ((with_reducible refine gate_dst (N := 1) rfl ?_); refine box_event ?hg (N := 1) ?hd (cs := #[.int .i64 a0_0, .slice A0_1 l0_1.length c0_1, .slice A0_2 l0_2.length c0_2, .int .i64 a0_3, .int .i64 a0_4, .int .i64 a0_5, .int .i64 a0_6, .slice A0_7 l0_7.length c0_7, .string a0_8]) (t := 41) ?hr ?_; (case hd => rfl); (case hg => rfl); (case hr => first | (go_simp; done) | (go_simp; rfl)); intro gb192 hg w5 hbox hb; have n0_ := Aside0.mk (below_step (by repeat (first | (with_reducible first | exact HB.out | apply below_alloc | apply pw_below_drewN | apply below_drew1) | exact HB.out)) hb); have n1_ := Aside0.mk (hbox); have n2_ := Aside0.mk ((by rw [hg]; exact (below_size (by repeat (first | (with_reducible first | exact HB.out | apply below_alloc | apply pw_below_drewN | apply below_drew1) | exact HB.out))) : w.heap.size ≤ gb192)); have n3_ := Aside0.mk ((by rw [hg]; exact (below_size (by repeat (first | (with_reducible first | exact HB.out | apply below_alloc | apply pw_below_drewN | apply below_drew1) | exact HB.out))) : w.heap.size ≤ gb192)); clear HB; have HB := n0_; have BK192 := n1_; have GW192 := n2_; have GE192 := n3_; clear n0_ n1_ n2_ n3_; clear hb hbox hg) | ((with_reducible refine gate_dst (N := 2) rfl ?_); refine box_event ?hg (N := 2) ?hd (cs := #[.int .i64 0, .int .i64 0]) (t := 72) ?hr ?_; (case hd => rfl); (case hg => rfl); (case hr => first | (go_simp; done) | (go_simp; rfl)); intro gb193 hg w6 hbox hb; have n0_ := Aside0.mk (blk_below (qB BK192.out) hb); have n1_ := Aside0.mk (below_step (by repeat (first | (with_reducible first | exact HB.out | apply below_alloc | apply pw_below_drewN | apply below_drew1 | refine below_set ?_ GE192.out) | exact HB.out)) hb); have n2_ := Aside0.mk (hbox); have n3_ := Aside0.mk ((by rw [hg]; exact (below_size (by repeat (first | (with_reducible first | exact HB.out | apply below_alloc | apply pw_below_drewN | apply below_drew1 | refine below_set ?_ GE192.out) | exact HB.out))) : w.heap.size ≤ gb193)); have n4_ := Aside0.mk ((by rw [hg]; exact (below_size (by repeat (first | (with_reducible first | exact HB.out | apply below_alloc | apply pw_below_drewN | apply below_drew1 | refine below_set ?_ GE192.out) | exact HB.out))) : w.heap.size ≤ gb193)); have n5_ := Aside0.mk ((by rw [hg]; exact Nat.ne_of_lt (blk_lt (qB BK192.out)) : gb192 ≠ gb193)); have n6_ := Aside0.mk ((by rw [hg]; exact Nat.ne_of_gt (blk_lt (qB BK192.out)) : gb193 ≠ gb192)); clear BK192; clear HB; have BK192 := n0_; have HB := n1_; have BK193 := n2_; have GW193 := n3_; have GE193 := n4_; have NB192_193 := n5_; have NB193_192 := n6_; clear n0_ n1_ n2_ n3_ n4_ n5_ n6_; clear hb hbox hg; have hnb7 := NB192_193.out; have hnc7 := NB193_192.out; have hcz8_0 : w6.cell? ⟨gb192, 0, none⟩ = some (.int .i64 a0_0) := (blk_cell BK192.out 0).trans rfl; have hcz8_1 : w6.cell? ⟨gb192, 1, none⟩ = some (.slice A0_1 l0_1.length c0_1) := (blk_cell BK192.out 1).trans rfl; have hcz8_2 : w6.cell? ⟨gb192, 2, none⟩ = some (.slice A0_2 l0_2.length c0_2) := (blk_cell BK192.out 2).trans rfl; have hcz8_3 : w6.cell? ⟨gb192, 3, none⟩ = some (.int .i64 a0_3) := (blk_cell BK192.out 3).trans rfl; have hcz8_4 : w6.cell? ⟨gb192, 4, none⟩ = some (.int .i64 a0_4) := (blk_cell BK192.out 4).trans rfl; have hcz8_5 : w6.cell? ⟨gb192, 5, none⟩ = some (.int .i64 a0_5) := (blk_cell BK192.out 5).trans rfl; have hcz8_6 : w6.cell? ⟨gb192, 6, none⟩ = some (.int .i64 a0_6) := (blk_cell BK192.out 6).trans rfl; have hcz8_7 : w6.cell? ⟨gb192, 7, none⟩ = some (.slice A0_7 l0_7.length c0_7) := (blk_cell BK192.out 7).trans rfl; have hcz8_8 : w6.cell? ⟨gb192, 8, none⟩ = some (.string a0_8) := (blk_cell BK192.out 8).trans rfl; have hfz8_0 := blk_frozen BK192.out 0; have hfz8_1 := blk_frozen BK192.out 1; have hfz8_2 := blk_frozen BK192.out 2; have hfz8_3 := blk_frozen BK192.out 3; have hfz8_4 := blk_frozen BK192.out 4; have hfz8_5 := blk_frozen BK192.out 5; have hfz8_6 := blk_frozen BK192.out 6; have hfz8_7 := blk_frozen BK192.out 7; have hfz8_8 := blk_frozen BK192.out 8) | ((with_reducible refine gate_callee (f := 80) rfl ?_); refine goesL_ (some 5) rfl rfl Tryz.func80 (by kernel_rfl) rfl #[.agg #[.int .i64 a0_0, .slice A0_1 l0_1.length c0_1, .slice A0_2 l0_2.length c0_2, .int .i64 a0_3, .int .i64 a0_4, .int .i64 a0_5, .int .i64 a0_6, .slice A0_7 l0_7.length c0_7, .string a0_8]] rfl (by (try simp only [List.map_toArray, List.map_cons, List.map_nil]); first | done | rfl | (simp only [List.length_drop, List.length_take]; rfl)) ?_; (with_reducible refine (event_Right.calls k a0_0 _ _ l0_1 _ _ l0_2 a0_3 a0_4 a0_5 a0_6 _ _ l0_7 a0_8 true _ ?side1 ?side2 ?side3 ?side4 ?side5 ?side6 A2.out).mono ?_); (case side1 => repeat (first | exact (Kd.C_below HR0_1.out HB.out) | (with_reducible refine Kd.C_alloc ?_ _) | (with_reducible refine Kd.C_drewN ?_ _) | (with_reducible refine Kd.C_drew ?_))); (case side2 => exact HC0_1.out); (case side3 => repeat (first | exact (Kd.C_below HR0_2.out HB.out) | (with_reducible refine Kd.C_alloc ?_ _) | (with_reducible refine Kd.C_drewN ?_ _) | (with_reducible refine Kd.C_drew ?_))); (case side4 => exact HC0_2.out); (case side5 => repeat (first | exact (Kd.C_below HR0_7.out HB.out) | (with_reducible refine Kd.C_alloc ?_ _) | (with_reducible refine Kd.C_drewN ?_ _) | (with_reducible refine Kd.C_drew ?_))); (case side6 => exact HC0_7.out); rintro e w9 ⟨rfl, hb⟩; refine ⟨_, rfl, ?_⟩; have n0_ := Aside0.mk (blk_below (qB BK192.out) hb); have n1_ := Aside0.mk (blk_below (qB BK193.out) hb); have n2_ := Aside0.mk (below_step (by repeat (first | (with_reducible first | exact HB.out | apply below_alloc | apply pw_below_drewN | apply below_drew1 | refine below_set ?_ (Aside0.out (by assumption))) | exact HB.out)) hb); clear BK192; clear BK193; clear HB; have BK192 := n0_; have BK193 := n1_; have HB := n2_; clear n0_ n1_ n2_; (try clear hb); (try clear hb2); (try clear hk); (try clear hi); have hcz10_0 : w9.cell? ⟨gb192, 0, none⟩ = some (.int .i64 a0_0) := (blk_cell BK192.out 0).trans rfl; have hcz10_1 : w9.cell? ⟨gb192, 1, none⟩ = some (.slice A0_1 l0_1.length c0_1) := (blk_cell BK192.out 1).trans rfl; have hcz10_2 : w9.cell? ⟨gb192, 2, none⟩ = some (.slice A0_2 l0_2.length c0_2) := (blk_cell BK192.out 2).trans rfl; have hcz10_3 : w9.cell? ⟨gb192, 3, none⟩ = some (.int .i64 a0_3) := (blk_cell BK192.out 3).trans rfl; have hcz10_4 : w9.cell? ⟨gb192, 4, none⟩ = some (.int .i64 a0_4) := (blk_cell BK192.out 4).trans rfl; have hcz10_5 : w9.cell? ⟨gb192, 5, none⟩ = some (.int .i64 a0_5) := (blk_cell BK192.out 5).trans rfl; have hcz10_6 : w9.cell? ⟨gb192, 6, none⟩ = some (.int .i64 a0_6) := (blk_cell BK192.out 6).trans rfl; have hcz10_7 : w9.cell? ⟨gb192, 7, none⟩ = some (.slice A0_7 l0_7.length c0_7) := (blk_cell BK192.out 7).trans rfl; have hcz10_8 : w9.cell? ⟨gb192, 8, none⟩ = some (.string a0_8) := (blk_cell BK192.out 8).trans rfl; have hfz10_0 := blk_frozen BK192.out 0; have hfz10_1 := blk_frozen BK192.out 1; have hfz10_2 := blk_frozen BK192.out 2; have hfz10_3 := blk_frozen BK192.out 3; have hfz10_4 := blk_frozen BK192.out 4; have hfz10_5 := blk_frozen BK192.out 5; have hfz10_6 := blk_frozen BK192.out 6; have hfz10_7 := blk_frozen BK192.out 7; have hfz10_8 := blk_frozen BK192.out 8) | ((with_reducible refine gate_callee (f := 83) rfl ?_); refine goesL_ (some 10) rfl rfl Tryz.func83 (by kernel_rfl) rfl #[.agg #[.int .i64 a0_3, .int .i64 a0_4, .int .i64 a0_5, .int .i64 a0_6]] rfl (by (try simp only [List.map_toArray, List.map_cons, List.map_nil]); first | done | rfl | (simp only [List.length_drop, List.length_take]; rfl)) ?_; (with_reducible refine (value_Length.calls k a0_3 a0_4 a0_5 a0_6 t195 t196 t197 _ A4.out).mono ?_); rintro e w11 ⟨rfl, hb⟩; refine ⟨_, rfl, ?_⟩; have n0_ := Aside0.mk (blk_below (qB BK192.out) hb); have n1_ := Aside0.mk (blk_below (qB BK193.out) hb); have n2_ := Aside0.mk (below_step (by repeat (first | (with_reducible first | exact HB.out | apply below_alloc | apply pw_below_drewN | apply below_drew1 | refine below_set ?_ (Aside0.out (by assumption))) | exact HB.out)) hb); clear BK192; clear BK193; clear HB; have BK192 := n0_; have BK193 := n1_; have HB := n2_; clear n0_ n1_ n2_; (try clear hb); (try clear hb2); (try clear hk); (try clear hi); have hcz12_0 : w11.cell? ⟨gb193, 0, none⟩ = some (.int .i64 0) := (blk_cell BK193.out 0).trans rfl; have hcz12_1 : w11.cell? ⟨gb193, 1, none⟩ = some (.int .i64 0) := (blk_cell BK193.out 1).trans rfl; have hfz12_0 := blk_frozen BK193.out 0; have hfz12_1 := blk_frozen BK193.out 1))
   refine bodyPost_ret (results_ct rfl _ _ gb193 72 #[.int .i64 t195, .int .i64 t196] (0, 0) _ rfl (by (with_reducible repeat (first | refine blk_drewN ?_ _ | refine blk_drew ?_ | refine blk_alloc ?_ _)); refine blk_put (cs := #[.int .i64 t195, .int .i64 0]) ?_ 1 _ rfl; (with_reducible repeat (first | refine blk_drewN ?_ _ | refine blk_drew ?_ | refine blk_alloc ?_ _)); refine blk_put (cs := #[.int .i64 0, .int .i64 0]) ?_ 0 _ rfl; (with_reducible repeat (first | refine blk_drewN ?_ _ | refine blk_drew ?_ | refine blk_alloc ?_ _)); exact BK193.out) Tryz.underlying72 rfl (by kernel_rfl)) rfl ?_
   exact ⟨by first | rfl | (simp [errW_none, errW_some] <;> rfl) | (simp [*, errW_none, errW_some] <;> rfl), by repeat (first | (with_reducible first | exact HB.out | apply below_alloc | apply pw_below_drewN | apply below_drew1 | refine below_set ?_ (Aside0.out (by assumption))) | exact HB.out)⟩
 · replace c3 := Bool.eq_false_iff.mpr c3
   subst c3
   have H1 : (some (0, 0, 60)) = some (r1, r2, r3) := by rw [if_neg (show ¬ (false = true) by decide)] at H; exact H
   clear H
   have H := H1
   clear H1
   simp only [Option.some.injEq, Prod.mk.injEq] at H
   obtain ⟨rfl, rfl, rfl⟩ := H
   go_enter Tryz.func60, Tryz.ntmps60
   go_wp2_with (first | ((with_reducible refine gate_dst (N := 1) rfl ?_); refine box_event ?hg (N := 1) ?hd (cs := #[.int .i64 a0_0, .slice A0_1 l0_1.length c0_1, .slice A0_2 l0_2.length c0_2, .int .i64 a0_3, .int .i64 a0_4, .int .i64 a0_5, .int .i64 a0_6, .slice A0_7 l0_7.length c0_7, .string a0_8]) (t := 41) ?hr ?_; (case hd => rfl); (case hg => rfl); (case hr => first | (go_simp; done) | (go_simp; rfl)); intro gb192 hg w13 hbox hb; have n0_ := Aside0.mk (below_step (by repeat (first | (with_reducible first | exact HB.out | apply below_alloc | apply pw_below_drewN | apply below_drew1) | exact HB.out)) hb); have n1_ := Aside0.mk (hbox); have n2_ := Aside0.mk ((by rw [hg]; exact (below_size (by repeat (first | (with_reducible first | exact HB.out | apply below_alloc | apply pw_below_drewN | apply below_drew1) | exact HB.out))) : w.heap.size ≤ gb192)); have n3_ := Aside0.mk ((by rw [hg]; exact (below_size (by repeat (first | (with_reducible first | exact HB.out | apply below_alloc | apply pw_below_drewN | apply below_drew1) | exact HB.out))) : w.heap.size ≤ gb192)); clear HB; have HB := n0_; have BK192 := n1_; have GW192 := n2_; have GE192 := n3_; clear n0_ n1_ n2_ n3_; clear hb hbox hg) | ((with_reducible refine gate_dst (N := 2) rfl ?_); refine box_event ?hg (N := 2) ?hd (cs := #[.int .i64 0, .int .i64 0]) (t := 72) ?hr ?_; (case hd => rfl); (case hg => rfl); (case hr => first | (go_simp; done) | (go_simp; rfl)); intro gb193 hg w14 hbox hb; have n0_ := Aside0.mk (blk_below (qB BK192.out) hb); have n1_ := Aside0.mk (below_step (by repeat (first | (with_reducible first | exact HB.out | apply below_alloc | apply pw_below_drewN | apply below_drew1 | refine below_set ?_ GE192.out) | exact HB.out)) hb); have n2_ := Aside0.mk (hbox); have n3_ := Aside0.mk ((by rw [hg]; exact (below_size (by repeat (first | (with_reducible first | exact HB.out | apply below_alloc | apply pw_below_drewN | apply below_drew1 | refine below_set ?_ GE192.out) | exact HB.out))) : w.heap.size ≤ gb193)); have n4_ := Aside0.mk ((by rw [hg]; exact (below_size (by repeat (first | (with_reducible first | exact HB.out | apply below_alloc | apply pw_below_drewN | apply below_drew1 | refine below_set ?_ GE192.out) | exact HB.out))) : w.heap.size ≤ gb193)); have n5_ := Aside0.mk ((by rw [hg]; exact Nat.ne_of_lt (blk_lt (qB BK192.out)) : gb192 ≠ gb193)); have n6_ := Aside0.mk ((by rw [hg]; exact Nat.ne_of_gt (blk_lt (qB BK192.out)) : gb193 ≠ gb192)); clear BK192; clear HB; have BK192 := n0_; have HB := n1_; have BK193 := n2_; have GW193 := n3_; have GE193 := n4_; have NB192_193 := n5_; have NB193_192 := n6_; clear n0_ n1_ n2_ n3_ n4_ n5_ n6_; clear hb hbox hg; have hnb15 := NB192_193.out; have hnc15 := NB193_192.out; have hcz16_0 : w14.cell? ⟨gb192, 0, none⟩ = some (.int .i64 a0_0) := (blk_cell BK192.out 0).trans rfl; have hcz16_1 : w14.cell? ⟨gb192, 1, none⟩ = some (.slice A0_1 l0_1.length c0_1) := (blk_cell BK192.out 1).trans rfl; have hcz16_2 : w14.cell? ⟨gb192, 2, none⟩ = some (.slice A0_2 l0_2.length c0_2) := (blk_cell BK192.out 2).trans rfl; have hcz16_3 : w14.cell? ⟨gb192, 3, none⟩ = some (.int .i64 a0_3) := (blk_cell BK192.out 3).trans rfl; have hcz16_4 : w14.cell? ⟨gb192, 4, none⟩ = some (.int .i64 a0_4) := (blk_cell BK192.out 4).trans rfl; have hcz16_5 : w14.cell? ⟨gb192, 5, none⟩ = some (.int .i64 a0_5) := (blk_cell BK192.out 5).trans rfl; have hcz16_6 : w14.cell? ⟨gb192, 6, none⟩ = some (.int .i64 a0_6) := (blk_cell BK192.out 6).trans rfl; have hcz16_7 : w14.cell? ⟨gb192, 7, none⟩ = some (.slice A0_7 l0_7.length c0_7) := (blk_cell BK192.out 7).trans rfl; have hcz16_8 : w14.cell? ⟨gb192, 8, none⟩ = some (.string a0_8) := (blk_cell BK192.out 8).trans rfl; have hfz16_0 := blk_frozen BK192.out 0; have hfz16_1 := blk_frozen BK192.out 1; have hfz16_2 := blk_frozen BK192.out 2; have hfz16_3 := blk_frozen BK192.out 3; have hfz16_4 := blk_frozen BK192.out 4; have hfz16_5 := blk_frozen BK192.out 5; have hfz16_6 := blk_frozen BK192.out 6; have hfz16_7 := blk_frozen BK192.out 7; have hfz16_8 := blk_frozen BK192.out 8) | ((with_reducible refine gate_callee (f := 80) rfl ?_); refine goesL_ (some 5) rfl rfl Tryz.func80 (by kernel_rfl) rfl #[.agg #[.int .i64 a0_0, .slice A0_1 l0_1.length c0_1, .slice A0_2 l0_2.length c0_2, .int .i64 a0_3, .int .i64 a0_4, .int .i64 a0_5, .int .i64 a0_6, .slice A0_7 l0_7.length c0_7, .string a0_8]] rfl (by (try simp only [List.map_toArray, List.map_cons, List.map_nil]); first | done | rfl | (simp only [List.length_drop, List.length_take]; rfl)) ?_; (with_reducible refine (event_Right.calls k a0_0 _ _ l0_1 _ _ l0_2 a0_3 a0_4 a0_5 a0_6 _ _ l0_7 a0_8 false _ ?side1 ?side2 ?side3 ?side4 ?side5 ?side6 A2.out).mono ?_); (case side1 => repeat (first | exact (Kd.C_below HR0_1.out HB.out) | (with_reducible refine Kd.C_alloc ?_ _) | (with_reducible refine Kd.C_drewN ?_ _) | (with_reducible refine Kd.C_drew ?_))); (case side2 => exact HC0_1.out); (case side3 => repeat (first | exact (Kd.C_below HR0_2.out HB.out) | (with_reducible refine Kd.C_alloc ?_ _) | (with_reducible refine Kd.C_drewN ?_ _) | (with_reducible refine Kd.C_drew ?_))); (case side4 => exact HC0_2.out); (case side5 => repeat (first | exact (Kd.C_below HR0_7.out HB.out) | (with_reducible refine Kd.C_alloc ?_ _) | (with_reducible refine Kd.C_drewN ?_ _) | (with_reducible refine Kd.C_drew ?_))); (case side6 => exact HC0_7.out); rintro e w17 ⟨rfl, hb⟩; refine ⟨_, rfl, ?_⟩; have n0_ := Aside0.mk (blk_below (qB BK192.out) hb); have n1_ := Aside0.mk (blk_below (qB BK193.out) hb); have n2_ := Aside0.mk (below_step (by repeat (first | (with_reducible first | exact HB.out | apply below_alloc | apply pw_below_drewN | apply below_drew1 | refine below_set ?_ (Aside0.out (by assumption))) | exact HB.out)) hb); clear BK192; clear BK193; clear HB; have BK192 := n0_; have BK193 := n1_; have HB := n2_; clear n0_ n1_ n2_; (try clear hb); (try clear hb2); (try clear hk); (try clear hi); have hcz18_0 : w17.cell? ⟨gb193, 0, none⟩ = some (.int .i64 0) := (blk_cell BK193.out 0).trans rfl; have hcz18_1 : w17.cell? ⟨gb193, 1, none⟩ = some (.int .i64 0) := (blk_cell BK193.out 1).trans rfl; have hfz18_0 := blk_frozen BK193.out 0; have hfz18_1 := blk_frozen BK193.out 1))
   refine bodyPost_ret (results_ct rfl _ _ gb193 72 #[.int .i64 0, .int .i64 0] (0, 0) _ rfl (by (with_reducible repeat (first | refine blk_drewN ?_ _ | refine blk_drew ?_ | refine blk_alloc ?_ _)); refine blk_put (cs := #[.int .i64 0, .int .i64 0]) ?_ 1 _ rfl; (with_reducible repeat (first | refine blk_drewN ?_ _ | refine blk_drew ?_ | refine blk_alloc ?_ _)); refine blk_put (cs := #[.int .i64 0, .int .i64 0]) ?_ 0 _ rfl; (with_reducible repeat (first | refine blk_drewN ?_ _ | refine blk_drew ?_ | refine blk_alloc ?_ _)); exact BK193.out) Tryz.underlying72 rfl (by kernel_rfl)) rfl ?_
   exact ⟨by first | rfl | (simp [errW_none, errW_some] <;> rfl) | (simp [*, errW_none, errW_some] <;> rfl), by repeat (first | (with_reducible first | exact HB.out | apply below_alloc | apply pw_below_drewN | apply below_drew1 | refine below_set ?_ (Aside0.out (by assumption))) | exact HB.out)⟩

/-! ### ratio_deed_do: function 85 -/
/-- The variables of a deed: the function, both ratios, what comes of it. -/
structure D4 (W : World) (n g : Nat) (a b c d : Int) : Prop where
  f : W.heap[n]? = some (.cells #[.func (.func g) #[] #[]] 124 (0, 0))
  x : W.heap[n + 1]? = some (.cells #[.int .i64 a, .int .i64 b] 72 (0, 0))
  y : W.heap[n + 1 + 1]? = some (.cells #[.int .i64 c, .int .i64 d] 72 (0, 0))
  r : W.heap[n + 1 + 1 + 1]? = some (.cells #[.int .i64 0, .int .i64 0] 72 (0, 0))
theorem D4.step {W W1 : World} {n g : Nat} {a b c d : Int} (h : D4 W n g a b c d) (hb : Below W.heap.size W W1) : D4 W1 n g a b c d := ⟨blk_below h.f hb, blk_below h.x hb, blk_below h.y hb, blk_below h.r hb⟩
theorem D4.new (w : World) (g : Nat) (a b c d : Int) : D4 ((((w.alloc (.cells #[.func (.func g) #[] #[]] 124)).alloc (.cells #[.int .i64 a, .int .i64 b] 72)).alloc (.cells #[.int .i64 c, .int .i64 d] 72)).alloc (.cells #[.int .i64 0, .int .i64 0] 72)) w.heap.size g a b c d := by
  have h0 := blk_new w (.cells #[.func (.func g) #[] #[]] 124)
  have h1 := blk_new (w.alloc (.cells #[.func (.func g) #[] #[]] 124)) (.cells #[.int .i64 a, .int .i64 b] 72)
  have h2 := blk_new ((w.alloc (.cells #[.func (.func g) #[] #[]] 124)).alloc (.cells #[.int .i64 a, .int .i64 b] 72)) (.cells #[.int .i64 c, .int .i64 d] 72)
  have h3 := blk_new (((w.alloc (.cells #[.func (.func g) #[] #[]] 124)).alloc (.cells #[.int .i64 a, .int .i64 b] 72)).alloc (.cells #[.int .i64 c, .int .i64 d] 72)) (.cells #[.int .i64 0, .int .i64 0] 72)
  simp only [World.size_alloc] at h1 h2 h3
  exact ⟨blk_alloc (blk_alloc (blk_alloc h0 _) _) _, blk_alloc (blk_alloc h1 _) _, blk_alloc h2 _, h3⟩
theorem D4.cells {W : World} {n g : Nat} {a b c d : Int} (h : D4 W n g a b c d) : W.cell? ⟨n, 0, none⟩ = some (.func (.func g) #[] #[]) ∧ W.cell? ⟨n + 1, 0, none⟩ = some (.int .i64 a) ∧ W.cell? ⟨n + 1, 1, none⟩ = some (.int .i64 b) ∧ W.cell? ⟨n + 1 + 1, 0, none⟩ = some (.int .i64 c) ∧ W.cell? ⟨n + 1 + 1, 1, none⟩ = some (.int .i64 d) ∧ W.cell? ⟨n + 1 + 1 + 1, 0, none⟩ = some (.int .i64 0) ∧ W.cell? ⟨n + 1 + 1 + 1, 1, none⟩ = some (.int .i64 0) ∧ W.frozen? ⟨n + 1 + 1 + 1, 0, none⟩ = false ∧ W.frozen? ⟨n + 1 + 1 + 1, 1, none⟩ = false :=
  ⟨(blk_cell h.f 0).trans rfl, (blk_cell h.x 0).trans rfl, (blk_cell h.x 1).trans rfl, (blk_cell h.y 0).trans rfl, (blk_cell h.y 1).trans rfl, (blk_cell h.r 0).trans rfl, (blk_cell h.r 1).trans rfl, blk_frozen h.r 0, blk_frozen h.r 1⟩
def doI (a b c d tn td : Int) : Option (Int × Int × Int) := if (rightB a b && rightB c d) = true then ratio_Of.f tn td else some (0, 0, 10)
set_option maxHeartbeats 1000000 in
set_option maxRecDepth 100000 in
theorem deed_do_any (g : Nat) (eg : ∀ args w, (callFunc g args).run Tryz.prog w = .ok (.enter g args) w) (tn td a b c d r1 r2 r3 : Int) (w : World)
    (hT : ∀ W : World, Calls Tryz.prog g #[.agg #[.int .i64 a, .int .i64 b], .agg #[.int .i64 c, .int .i64 d]] W fun e W' => e = .returned (.tuple #[.int .i64 tn, .int .i64 td]) ∧ Below W.heap.size W W')
    (h : doI a b c d tn td = some (r1, r2, r3)) :
    Calls Tryz.prog 85 #[.agg #[.func (.func g) #[] #[]], .agg #[.int .i64 a, .int .i64 b], .agg #[.int .i64 c, .int .i64 d]] w fun e w' => e = .returned (.tuple #[.agg #[.int .i64 r1, .int .i64 r2], .int .i64 r3]) ∧ Below w.heap.size w w' := by
  have HB := Aside0.mk (Below.refl w.heap.size w)
  have hu := Tryz.underlying72
  have hu54 := Tryz.underlying124
  have F0 := D4.new w g a b c d
  have HT := Aside0.mk hT
  clear hT
  unfold doI at h
  by_cases h1 : rightB a b = true
  · have R := Aside0.mk (Right_eq h1)
    by_cases h2 : rightB c d = true
    · have RR := Aside0.mk (Right_eq h2)
      simp only [h1, h2, Bool.and_self, if_true] at h
      have HO := Aside0.mk (fun W => ratio_Of.calls tn td r1 r2 r3 W h)
      clear h h1 h2
      go_enter Tryz.func85, Tryz.ntmps85
      go_wp2_with (first
        | (go_at_call 62; (with_reducible refine (R.out _).mono ?_); rintro e w1 ⟨rfl, hb⟩; have F1 := F0.step hb; have HB1 := Aside0.mk ((by repeat (first | exact HB.out | apply below_alloc) : Below w.heap.size w _).trans (hb.mono (by simp; omega))); obtain ⟨q0, q1, q2, q3, q4, q5, q6, q7, q8⟩ := F1.cells; clear hb F0)
        | (go_at_call 62; (with_reducible refine (RR.out _).mono ?_); rintro e w2 ⟨rfl, hb⟩; have F2 := F1.step hb; have HB2 := Aside0.mk (HB1.out.trans (hb.mono HB1.out.size)); clear q0 q1 q2 q3 q4 q5 q6 q7 q8; obtain ⟨q0, q1, q2, q3, q4, q5, q6, q7, q8⟩ := F2.cells; clear hb F1)
        | (go_at_fn g; refine (HT.out _).mono ?_; rintro e w3 ⟨rfl, hb⟩; have F3 := F2.step hb; have HB3 := Aside0.mk (HB2.out.trans (hb.mono HB2.out.size)); clear q0 q1 q2 q3 q4 q5 q6 q7 q8; obtain ⟨q0, q1, q2, q3, q4, q5, q6, q7, q8⟩ := F3.cells; clear hb F2)
        | (go_at_call 58; (with_reducible refine (HO.out _).mono ?_); rintro e w4 ⟨rfl, hb⟩; have F4 := F3.step hb; have HB4 := Aside0.mk (HB3.out.trans (hb.mono HB3.out.size)); clear q0 q1 q2 q3 q4 q5 q6 q7 q8; obtain ⟨q0, q1, q2, q3, q4, q5, q6, q7, q8⟩ := F4.cells; clear hb F3))
      refine bodyPost_ret (results_ct rfl _ _ (w.heap.size + 1 + 1 + 1) 72 #[.int .i64 r1, .int .i64 r2] (0, 0) _ rfl (blk_put (cs := #[.int .i64 r1, .int .i64 0]) (blk_put F4.r 0 _ rfl) 1 _ rfl) Tryz.underlying72 rfl (by kernel_rfl)) rfl ?_
      exact ⟨rfl, below_set (below_set HB4.out (by omega)) (by omega)⟩
    · have RR := Aside0.mk (Right_eq (Bool.eq_false_iff.mpr h2))
      simp only [h2, Bool.and_false, if_false, Bool.false_eq_true] at h
      obtain ⟨rfl, rfl, rfl⟩ : (0 : Int) = r1 ∧ (0 : Int) = r2 ∧ (10 : Int) = r3 := by simpa using h
      clear h h1 h2
      go_enter Tryz.func85, Tryz.ntmps85
      go_wp2_with (first
        | (go_at_call 62; (with_reducible refine (R.out _).mono ?_); rintro e w1 ⟨rfl, hb⟩; have F1 := F0.step hb; have HB1 := Aside0.mk ((by repeat (first | exact HB.out | apply below_alloc) : Below w.heap.size w _).trans (hb.mono (by simp; omega))); obtain ⟨q0, q1, q2, q3, q4, q5, q6, q7, q8⟩ := F1.cells; clear hb F0)
        | (go_at_call 62; (with_reducible refine (RR.out _).mono ?_); rintro e w2 ⟨rfl, hb⟩; have F2 := F1.step hb; have HB2 := Aside0.mk (HB1.out.trans (hb.mono HB1.out.size)); clear q0 q1 q2 q3 q4 q5 q6 q7 q8; obtain ⟨q0, q1, q2, q3, q4, q5, q6, q7, q8⟩ := F2.cells; clear hb F1))
      refine bodyPost_ret (results_ct rfl _ _ (w.heap.size + 1 + 1 + 1) 72 #[.int .i64 0, .int .i64 0] (0, 0) _ rfl (blk_put (cs := #[.int .i64 0, .int .i64 0]) (blk_put F2.r 0 _ rfl) 1 _ rfl) Tryz.underlying72 rfl (by kernel_rfl)) rfl ?_
      exact ⟨rfl, below_set (below_set HB2.out (by omega)) (by omega)⟩
  · have R := Aside0.mk (Right_eq (Bool.eq_false_iff.mpr h1))
    simp only [h1, Bool.false_and, if_false, Bool.false_eq_true] at h
    obtain ⟨rfl, rfl, rfl⟩ : (0 : Int) = r1 ∧ (0 : Int) = r2 ∧ (10 : Int) = r3 := by simpa using h
    clear h h1
    go_enter Tryz.func85, Tryz.ntmps85
    go_wp2_with (go_at_call 62; (with_reducible refine (R.out _).mono ?_); rintro e w1 ⟨rfl, hb⟩; have F1 := F0.step hb; have HB1 := Aside0.mk ((by repeat (first | exact HB.out | apply below_alloc) : Below w.heap.size w _).trans (hb.mono (by simp; omega))); obtain ⟨q0, q1, q2, q3, q4, q5, q6, q7, q8⟩ := F1.cells; clear hb F0)
    refine bodyPost_ret (results_ct rfl _ _ (w.heap.size + 1 + 1 + 1) 72 #[.int .i64 0, .int .i64 0] (0, 0) _ rfl (blk_put (cs := #[.int .i64 0, .int .i64 0]) (blk_put F1.r 0 _ rfl) 1 _ rfl) Tryz.underlying72 rfl (by kernel_rfl)) rfl ?_
    exact ⟨rfl, below_set (below_set HB1.out (by omega)) (by omega)⟩

/-! ### ratio_Add: function 61 -/
set_option maxRecDepth 100000 in
theorem Add_terms (a b c d : Int) (w : World) :
    Calls Tryz.prog 84 #[.agg #[.int .i64 a, .int .i64 b], .agg #[.int .i64 c, .int .i64 d]] w fun e w' => e = .returned (.tuple #[.int .i64 (wrap64 (wrap64 (a * d) + wrap64 (c * b))), .int .i64 (wrap64 (b * d))]) ∧ Below w.heap.size w w' := by
  have HB := Aside0.mk (Below.refl w.heap.size w)
  go_enter Tryz.func84, Tryz.ntmps84
  go_wp2
  go_quiet (fail)
  go_wp2
  go_ret2
  exact ⟨by first | rfl | (simp only [i64_w]; done) | (simp only [i64_w]; rfl), by repeat (first | exact HB.out | apply below_alloc | apply pw_below_drewN | apply below_drew1)⟩
def ratio_Add.f (a b c d : Int) : Option (Int × Int × Int) := doI a b c d (wrap64 (wrap64 (a * d) + wrap64 (c * b))) (wrap64 (b * d))
theorem ratio_Add.new (w : World) (x y : Obj) (cs : Array Value) (t : TypeId) : (((w.alloc x).alloc y).alloc (.cells cs t)).heap[w.heap.size + 1 + 1]? = some (.cells cs t (0, 0)) := by
  have h := blk_new ((w.alloc x).alloc y) (.cells cs t)
  simpa only [World.size_alloc] using h
set_option maxHeartbeats 1000000 in
set_option maxRecDepth 100000 in
theorem ratio_Add.calls (a b c d r1 r2 r3 : Int) (w : World) (h : ratio_Add.f a b c d = some (r1, r2, r3)) :
    Calls Tryz.prog 61 #[.agg #[.int .i64 a, .int .i64 b], .agg #[.int .i64 c, .int .i64 d]] w fun e w' => e = .returned (.tuple #[.agg #[.int .i64 r1, .int .i64 r2], .int .i64 r3]) ∧ Below w.heap.size w w' := by
  have HB := Aside0.mk (Below.refl w.heap.size w)
  have hu := Tryz.underlying72
  have hu54 := Tryz.underlying124
  have HD := Aside0.mk (fun W => deed_do_any 84 (enters_of Tryz.func84 (by kernel_rfl) rfl) _ _ a b c d r1 r2 r3 W (fun W => Add_terms a b c d W) h)
  have HX := Aside0.mk (ratio_Add.new w (.cells #[.int .i64 a, .int .i64 b] 72) (.cells #[.int .i64 c, .int .i64 d] 72) #[.int .i64 0, .int .i64 0] 72)
  clear h
  go_enter Tryz.func61, Tryz.ntmps61
  go_wp2_with (go_at_call 85; (with_reducible refine (HD.out _).mono ?_); rintro e w1 ⟨rfl, hb⟩; have BX := Aside0.mk (blk_below HX.out hb); have HB1 := Aside0.mk ((by repeat (first | exact HB.out | apply below_alloc) : Below w.heap.size w _).trans (hb.mono (by simp; omega))); have q5 : w1.cell? ⟨w.heap.size + 1 + 1, 0, none⟩ = some (.int .i64 0) := (blk_cell BX.out 0).trans rfl; have q6 : w1.cell? ⟨w.heap.size + 1 + 1, 1, none⟩ = some (.int .i64 0) := (blk_cell BX.out 1).trans rfl; have q7 := blk_frozen BX.out 0; have q8 := blk_frozen BX.out 1; clear hb)
  refine bodyPost_ret (results_ct rfl _ _ (w.heap.size + 1 + 1) 72 #[.int .i64 r1, .int .i64 r2] (0, 0) _ rfl (blk_put (cs := #[.int .i64 r1, .int .i64 0]) (blk_put BX.out 0 _ rfl) 1 _ rfl) Tryz.underlying72 rfl (by kernel_rfl)) rfl ?_
  exact ⟨rfl, below_set (below_set HB1.out (by omega)) (by omega)⟩

end Go.Proofs.YtocjbedacnlaaaaGreatDoor.Q
