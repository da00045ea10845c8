-- Written by a program of this session (myprint.py), function by function.
import Derived.Test.YtocjbedacnlaaaaGreatDoorQ0
import Derived.Test.YtocjbedacnlaaaaGreatDoorQ6
import Derived.IntWalk
import Derived.Maps.AppendAt
import Derived.Shelf.Abstract
namespace Go.Proofs.YtocjbedacnlaaaaGreatDoor.Q
open Go.RowKit Go.Proofs.YtocjbedacnlaaaaGreatDoorW.PrintWords Go.Proofs.YtocjbedacnlaaaaGreatDoorW.PrintLast Go.Proofs.YtocjbedacnlaaaaGreatDoorW.PrintMore
attribute [local go_sem] max2_int min2_int max_two min_two max_three min_three max_four min_four   -- for this text's walks alone
set_option linter.unusedVariables false
set_option linter.unusedSimpArgs false

-- NOT PRINTED: function 4 (partitalaw23_BeamPitches)

/-! ### partitaref05_Right: function 51 -/
/-! ### partitaref05_Groups: function 52 -/
/-! ### partitaref01_size: function 69 -/
def partitaref01_size.f (a0 : Int) : Option (Int) := if a0 < 0 then (some (IntKind.u64.wrap ((IntKind.u64.wrap (wrap64 (-(wrap64 (a0 + 1))))) + 1))) else (some (IntKind.u64.wrap (a0)))
set_option maxHeartbeats 8000000 in
set_option maxRecDepth 100000 in
theorem partitaref01_size.calls (a0 : Int) (r : Int) (w : World) (h : partitaref01_size.f a0 = some r) :
 Calls Tryz.prog 69 #[.int .i64 a0] w fun e w' => e = .returned (.int .u64 r) ∧ Drawn0 w w' := by
 have H : (if a0 < 0 then (some (IntKind.u64.wrap ((IntKind.u64.wrap (wrap64 (-(wrap64 (a0 + 1))))) + 1))) else (some (IntKind.u64.wrap (a0)))) = some r := h
 clear h
 by_cases c2 : a0 < 0
 · rw [if_pos c2] at H
   have c2b0 : decide (a0 < 0) = true := decide_eq_true c2
   clear c2
   obtain rfl := Option.some.inj H
   go_enter Tryz.func69, Tryz.ntmps69
   go_wp2
   go_ret
   exact ⟨by first | rfl | (simp; done) | (simp [*]; done), by repeat (first | exact Drawn0.refl _ | apply Drawn0.step)⟩
 · rw [if_neg c2] at H
   have c2b0 : decide (a0 < 0) = false := decide_eq_false c2
   clear c2
   obtain rfl := Option.some.inj H
   go_enter Tryz.func69, Tryz.ntmps69
   go_wp2
   go_ret
   exact ⟨by first | rfl | (simp; done) | (simp [*]; done), by repeat (first | exact Drawn0.refl _ | apply Drawn0.step)⟩

/-! ### partitaref01_divisor: function 70 -/
theorem gcd_step_r {a b : Int} (ha : 0 ≤ a) (hb : 0 ≤ b) : (Int.gcd b (a % b) : Int) = Int.gcd a b := by
  obtain ⟨m, rfl⟩ := Int.eq_ofNat_of_zero_le ha
  obtain ⟨n, rfl⟩ := Int.eq_ofNat_of_zero_le hb
  rw [← Int.natCast_emod]
  simp only [Int.gcd_natCast_natCast]
  rw [Nat.gcd_comm m n, Nat.gcd_rec n m, Nat.gcd_comm]
def partitaref01_divisor.f (a0 a1 : Int) : Option Int := if 0 ≤ a0 ∧ 0 ≤ a1 then some (Int.gcd a0 a1) else none
set_option maxHeartbeats 400000 in
theorem partitaref01_divisor.calls (a0 a1 : Int) (r : Int) (w : World) (h : partitaref01_divisor.f a0 a1 = some r) :
    Calls Tryz.prog 70 #[.int .u64 a0, .int .u64 a1] w fun e w' => e = .returned (.int .u64 r) ∧ Drawn0 w w' := by
  unfold partitaref01_divisor.f at h
  split at h
  next hc =>
    obtain ⟨h0, h1⟩ := hc
    have HR := Aside0.mk (Option.some.inj h)
    clear h
    go_enter Tryz.func70, Tryz.ntmps70
    go_wp2
    go_loop [0, 1] (fun x y => ∃ a b : Int, x = .int .u64 a ∧ y = .int .u64 b ∧ 0 ≤ a ∧ 0 ≤ b ∧ Aside0 ((Int.gcd a b : Int) = r)) (fun _ y => (intOf y).toNat)
    case atStart => exact ⟨a0, a1, rfl, rfl, h0, h1, HR⟩
    case round =>
      obtain ⟨a, b, rfl, rfl, ha, hb, HT⟩ := hrel
      clear HR h0 h1
      by_cases c : b = 0
      · subst c
        have e : r = a := by rw [← HT.out]; simp; omega
        subst e
        clear HT
        go_wp2
        go_ret
        exact ⟨rfl, Drawn0.refl _⟩
      · have c0 : (b != 0) = true := bne_iff_ne.mpr c
        have hlt : a % b < b := Int.emod_lt_of_pos a (by omega)
        have hge : 0 ≤ a % b := Int.emod_nonneg _ c
        have HS := Aside0.mk ((gcd_step_r ha hb).trans HT.out)
        clear HT
        go_wp2
        go_round
        case rel => exact ⟨b, a % b, rfl, rfl, hb, hge, HS⟩
        case measure => simp [intOf]; omega
  next => cases h

/-! ### partitaref01_Of: function 53 -/
def partitaref01_Of.j0 : Nat → Int → Int → Int → Int → Bool → Option (Int × Int × Int)
 | 0, _, _, _, _, _ => none
 | k + 1, x0, x1, x6, x7, x30 => if x30 = true then (some (0, 0, 10)) else (if ((decide (x0 < 0)) != (decide (x1 < 0))) = true then (some (wrap64 (-(wrap64 (x6))), wrap64 (x7), 0)) else (some (wrap64 (x6), wrap64 (x7), 0)))
def partitaref01_Of.f (k : Nat) (a0 : Int) (a1 : Int) : Option (Int × Int × Int) := if a1 = 0 then (some (0, 0, 11)) else ((partitaref01_size.f a0).bind fun t320 => ((partitaref01_size.f a1).bind fun t321 => ((partitaref01_divisor.f t320 t321).bind fun t322 => (if t322 = 0 then (none) else (if (IntKind.u64.wrap (Int.tdiv t320 t322)) > 1000000000 then (partitaref01_Of.j0 k a0 a1 (IntKind.u64.wrap (Int.tdiv t320 t322)) (IntKind.u64.wrap (Int.tdiv t321 t322)) true) else (partitaref01_Of.j0 k a0 a1 (IntKind.u64.wrap (Int.tdiv t320 t322)) (IntKind.u64.wrap (Int.tdiv t321 t322)) (decide ((IntKind.u64.wrap (Int.tdiv t321 t322)) > 1000000000))))))))
theorem partitaref01_Of.mono_l : ∀ k, (∀ y0 y1 y2 y3 y4, LeO (partitaref01_Of.j0 k y0 y1 y2 y3 y4) (partitaref01_Of.j0 (k + 1) y0 y1 y2 y3 y4))
 | 0 => fun _ _ _ _ _ r h => by simp [partitaref01_Of.j0] at h
 | k + 1 => by
  have ih0 := partitaref01_Of.mono_l k
  · intro y0 y1 y2 y3 y4
    unfold partitaref01_Of.j0
    repeat' first
    | (with_reducible exact ih0 _ _ _ _ _)
    | (with_reducible exact LeO.refl _)
    | (with_reducible exact LeO.none _)
    | (with_reducible refine LeO.ite ?_ ?_)
    | (with_reducible refine LeO.bind ?_ (fun _ => ?_))
    | exact ih0 _ _ _ _ _
    | exact LeO.none _
    | refine LeO.ite ?_ ?_
    | refine LeO.bind ?_ (fun _ => ?_)
theorem partitaref01_Of.mono : ∀ a0 a1 k, LeO (partitaref01_Of.f k a0 a1) (partitaref01_Of.f (k + 1) a0 a1) := by
 intro a0 a1 k
 have ih0 := partitaref01_Of.mono_l k
 unfold partitaref01_Of.f
 repeat' first
  | (with_reducible exact ih0 _ _ _ _ _)
  | (with_reducible exact LeO.refl _)
  | (with_reducible exact LeO.none _)
  | (with_reducible refine LeO.ite ?_ ?_)
  | (with_reducible refine LeO.bind ?_ (fun _ => ?_))
  | exact ih0 _ _ _ _ _
  | exact LeO.none _
  | refine LeO.ite ?_ ?_
  | refine LeO.bind ?_ (fun _ => ?_)
set_option maxHeartbeats 8000000 in
set_option maxRecDepth 100000 in
theorem partitaref01_Of.calls (k : Nat) (a0 : Int) (a1 : Int) (r1 : Int) (r2 : Int) (r3 : Int) (w : World) (h : partitaref01_Of.f k a0 a1 = some (r1, r2, r3)) :
 Calls Tryz.prog 53 #[.int .i64 a0, .int .i64 a1] w fun e w' => e = .returned (.tuple #[.agg #[.int .i64 r1, .int .i64 r2], .int .i64 r3]) ∧ Below w.heap.size w w' := by
 have hu72 := Tryz.underlying72
 have HB := Aside0.mk (Below.refl w.heap.size w)
 have H : (if a1 = 0 then (some (0, 0, 11)) else ((partitaref01_size.f a0).bind fun t320 => ((partitaref01_size.f a1).bind fun t321 => ((partitaref01_divisor.f t320 t321).bind fun t322 => (if t322 = 0 then (none) else (if (IntKind.u64.wrap (Int.tdiv t320 t322)) > 1000000000 then (partitaref01_Of.j0 k a0 a1 (IntKind.u64.wrap (Int.tdiv t320 t322)) (IntKind.u64.wrap (Int.tdiv t321 t322)) true) else (partitaref01_Of.j0 k a0 a1 (IntKind.u64.wrap (Int.tdiv t320 t322)) (IntKind.u64.wrap (Int.tdiv t321 t322)) (decide ((IntKind.u64.wrap (Int.tdiv t321 t322)) > 1000000000))))))))) = some (r1, r2, r3) := h
 clear h
 by_cases c3 : a1 = 0
 · rw [if_pos c3] at H
   have c3b0 : (a1 == 0) = true := beq_iff_eq.mpr c3
   have c3b1 : (a1 != 0) = false := bne_eq_false_iff_eq.mpr c3
   clear c3
   simp only [Option.some.injEq, Prod.mk.injEq] at H
   obtain ⟨rfl, rfl, rfl⟩ := H
   go_enter Tryz.func53, Tryz.ntmps53
   go_wp2_with (first | ((with_reducible refine gate_dst (N := 4) rfl ?_); refine box_event ?hg (N := 4) ?hd (cs := #[.int .i64 0, .int .i64 0]) (t := 72) ?hr ?_; (case hd => rfl); (case hg => rfl); (case hr => first | (go_simp; done) | (go_simp; rfl)); intro gb319 hg w4 hbox hb; have n0_ := Aside0.mk (below_step (by repeat (first | (with_reducible first | exact HB.out | apply below_alloc | apply pw_below_drewN | apply below_drew1) | exact HB.out)) hb); have n1_ := Aside0.mk (hbox); have n2_ := Aside0.mk ((by rw [hg]; exact (below_size (by repeat (first | (with_reducible first | exact HB.out | apply below_alloc | apply pw_below_drewN | apply below_drew1) | exact HB.out))) : w.heap.size ≤ gb319)); have n3_ := Aside0.mk ((by rw [hg]; exact (below_size (by repeat (first | (with_reducible first | exact HB.out | apply below_alloc | apply pw_below_drewN | apply below_drew1) | exact HB.out))) : w.heap.size ≤ gb319)); clear HB; have HB := n0_; have BK319 := n1_; have GW319 := n2_; have GE319 := n3_; clear n0_ n1_ n2_ n3_; clear hb hbox hg; have hcz5_0 : w4.cell? ⟨gb319, 0, none⟩ = some (.int .i64 0) := (blk_cell BK319.out 0).trans rfl; have hcz5_1 : w4.cell? ⟨gb319, 1, none⟩ = some (.int .i64 0) := (blk_cell BK319.out 1).trans rfl; have hfz5_0 := blk_frozen BK319.out 0; have hfz5_1 := blk_frozen BK319.out 1))
   refine bodyPost_ret (results_ct rfl _ _ gb319 72 #[.int .i64 0, .int .i64 0] (0, 0) _ rfl (by (with_reducible repeat (first | refine blk_drewN ?_ _ | refine blk_drew ?_ | refine blk_alloc ?_ _)); refine blk_put (cs := #[.int .i64 0, .int .i64 0]) ?_ 1 _ rfl; (with_reducible repeat (first | refine blk_drewN ?_ _ | refine blk_drew ?_ | refine blk_alloc ?_ _)); refine blk_put (cs := #[.int .i64 0, .int .i64 0]) ?_ 0 _ rfl; (with_reducible repeat (first | refine blk_drewN ?_ _ | refine blk_drew ?_ | refine blk_alloc ?_ _)); exact BK319.out) Tryz.underlying72 rfl (by kernel_rfl)) rfl ?_
   exact ⟨by first | rfl | (simp [errW_none, errW_some] <;> rfl) | (simp [*, errW_none, errW_some] <;> rfl), by repeat (first | (with_reducible first | exact HB.out | apply below_alloc | apply pw_below_drewN | apply below_drew1 | refine below_set ?_ GE319.out) | exact HB.out)⟩
 · rw [if_neg c3] at H
   have c3b0 : (a1 == 0) = false := beq_eq_false_iff_ne.mpr c3
   have c3b1 : (a1 != 0) = true := bne_iff_ne.mpr c3
   replace H := Option.bind_eq_some_iff.mp H
   obtain ⟨t320, A60, H⟩ := H
   replace H : ((partitaref01_size.f a1).bind fun t321 => ((partitaref01_divisor.f t320 t321).bind fun t322 => (if t322 = 0 then (none) else (if (IntKind.u64.wrap (Int.tdiv t320 t322)) > 1000000000 then (partitaref01_Of.j0 k a0 a1 (IntKind.u64.wrap (Int.tdiv t320 t322)) (IntKind.u64.wrap (Int.tdiv t321 t322)) true) else (partitaref01_Of.j0 k a0 a1 (IntKind.u64.wrap (Int.tdiv t320 t322)) (IntKind.u64.wrap (Int.tdiv t321 t322)) (decide ((IntKind.u64.wrap (Int.tdiv t321 t322)) > 1000000000))))))) = some (r1, r2, r3) := H
   have A6 := Aside0.mk A60
   clear A60
   replace H := Option.bind_eq_some_iff.mp H
   obtain ⟨t321, A70, H⟩ := H
   replace H : ((partitaref01_divisor.f t320 t321).bind fun t322 => (if t322 = 0 then (none) else (if (IntKind.u64.wrap (Int.tdiv t320 t322)) > 1000000000 then (partitaref01_Of.j0 k a0 a1 (IntKind.u64.wrap (Int.tdiv t320 t322)) (IntKind.u64.wrap (Int.tdiv t321 t322)) true) else (partitaref01_Of.j0 k a0 a1 (IntKind.u64.wrap (Int.tdiv t320 t322)) (IntKind.u64.wrap (Int.tdiv t321 t322)) (decide ((IntKind.u64.wrap (Int.tdiv t321 t322)) > 1000000000)))))) = some (r1, r2, r3) := H
   have A7 := Aside0.mk A70
   clear A70
   replace H := Option.bind_eq_some_iff.mp H
   obtain ⟨t322, A80, H⟩ := H
   replace H : (if t322 = 0 then (none) else (if (IntKind.u64.wrap (Int.tdiv t320 t322)) > 1000000000 then (partitaref01_Of.j0 k a0 a1 (IntKind.u64.wrap (Int.tdiv t320 t322)) (IntKind.u64.wrap (Int.tdiv t321 t322)) true) else (partitaref01_Of.j0 k a0 a1 (IntKind.u64.wrap (Int.tdiv t320 t322)) (IntKind.u64.wrap (Int.tdiv t321 t322)) (decide ((IntKind.u64.wrap (Int.tdiv t321 t322)) > 1000000000))))) = some (r1, r2, r3) := H
   have A8 := Aside0.mk A80
   clear A80
   by_cases c9 : t322 = 0
   · rw [if_pos c9] at H
     exact absurd H (by simp)
   · rw [if_neg c9] at H
     have c9b0 : (t322 == 0) = false := beq_eq_false_iff_ne.mpr c9
     have c9b1 : (t322 != 0) = true := bne_iff_ne.mpr c9
     have HC10 := Aside0.mk H
     clear H
     go_enter Tryz.func53, Tryz.ntmps53
     go_upto_region 8 with (first | ((with_reducible refine gate_dst (N := 4) rfl ?_); refine box_event ?hg (N := 4) ?hd (cs := #[.int .i64 0, .int .i64 0]) (t := 72) ?hr ?_; (case hd => rfl); (case hg => rfl); (case hr => first | (go_simp; done) | (go_simp; rfl)); intro gb319 hg w11 hbox hb; have n0_ := Aside0.mk (below_step (by repeat (first | (with_reducible first | exact HB.out | apply below_alloc | apply pw_below_drewN | apply below_drew1) | exact HB.out)) hb); have n1_ := Aside0.mk (hbox); have n2_ := Aside0.mk ((by rw [hg]; exact (below_size (by repeat (first | (with_reducible first | exact HB.out | apply below_alloc | apply pw_below_drewN | apply below_drew1) | exact HB.out))) : w.heap.size ≤ gb319)); have n3_ := Aside0.mk ((by rw [hg]; exact (below_size (by repeat (first | (with_reducible first | exact HB.out | apply below_alloc | apply pw_below_drewN | apply below_drew1) | exact HB.out))) : w.heap.size ≤ gb319)); clear HB; have HB := n0_; have BK319 := n1_; have GW319 := n2_; have GE319 := n3_; clear n0_ n1_ n2_ n3_; clear hb hbox hg) | ((with_reducible refine gate_callee (f := 69) rfl ?_); refine goesL_ (some 13) rfl rfl Tryz.func69 (by kernel_rfl) rfl #[.int .i64 a0] rfl (by (try simp only [List.map_toArray, List.map_cons, List.map_nil]); first | done | rfl | (simp only [List.length_drop, List.length_take]; rfl)) ?_; (with_reducible refine (partitaref01_size.calls a0 t320 _ A6.out).mono ?_); rintro e w' ⟨rfl, ⟨nd, rfl⟩⟩; refine ⟨_, rfl, ?_⟩) | ((with_reducible refine gate_callee (f := 69) rfl ?_); refine goesL_ (some 15) rfl rfl Tryz.func69 (by kernel_rfl) rfl #[.int .i64 a1] rfl (by (try simp only [List.map_toArray, List.map_cons, List.map_nil]); first | done | rfl | (simp only [List.length_drop, List.length_take]; rfl)) ?_; (with_reducible refine (partitaref01_size.calls a1 t321 _ A7.out).mono ?_); rintro e w' ⟨rfl, ⟨nd, rfl⟩⟩; refine ⟨_, rfl, ?_⟩) | ((with_reducible refine gate_callee (f := 70) rfl ?_); refine goesL_ (some 18) rfl rfl Tryz.func70 (by kernel_rfl) rfl #[.int .u64 t320, .int .u64 t321] rfl (by (try simp only [List.map_toArray, List.map_cons, List.map_nil]); first | done | rfl | (simp only [List.length_drop, List.length_take]; rfl)) ?_; (with_reducible refine (partitaref01_divisor.calls t320 t321 t322 _ A8.out).mono ?_); rintro e w' ⟨rfl, ⟨nd, rfl⟩⟩; refine ⟨_, rfl, ?_⟩))
     (try simp only [Act.put, qa_, qz_, qs_])
     go_cut [30] (fun v30 wc => ∃ (kq : Nat) (x30_9 : Bool), v30 = .bool x30_9 ∧ Aside0 (partitaref01_Of.j0 kq a0 a1 (IntKind.u64.wrap (Int.tdiv t320 t322)) (IntKind.u64.wrap (Int.tdiv t321 t322)) x30_9 = some (r1, r2, r3)) ∧ Aside0 (kq ≤ k) ∧ Aside0 (wc.heap[gb319]? = some (.cells #[.int .i64 0, .int .i64 0] 72 (0, 0))) ∧ Aside0 (Below w.heap.size w wc))
     case first =>
      have H := HC10.out
      clear HC10
      by_cases c12 : (IntKind.u64.wrap (Int.tdiv t320 t322)) > 1000000000
      · rw [if_pos c12] at H
        have c12b0 : decide (1000000000 < (IntKind.u64.wrap (Int.tdiv t320 t322))) = true := decide_eq_true c12
        clear c12
        (first | rw [c12b0] | (simp only [i64_w, i32_w]; rw [c12b0]) | skip)
        have H' := Aside0.mk H
        clear H
        go_wp2
        go_meet
        case rel => exact ⟨_, (true), (by first | rfl | (simp; done) | (simp [*]; done) | (simp [wrap64]; done)), H', ⟨by first | omega | exact Nat.le_refl _⟩, ⟨by (with_reducible repeat (first | refine blk_drewN ?_ _ | refine blk_drew ?_ | refine blk_alloc ?_ _)); exact BK319.out⟩, ⟨by repeat (first | (with_reducible first | exact HB.out | apply below_alloc | apply pw_below_drewN | apply below_drew1 | refine below_set ?_ GE319.out) | exact HB.out)⟩⟩
      · rw [if_neg c12] at H
        have c12b0 : decide (1000000000 < (IntKind.u64.wrap (Int.tdiv t320 t322))) = false := decide_eq_false c12
        clear c12
        (first | rw [c12b0] | (simp only [i64_w, i32_w]; rw [c12b0]) | skip)
        have H' := Aside0.mk H
        clear H
        go_wp2
        go_meet
        case rel => exact ⟨_, (decide ((IntKind.u64.wrap (Int.tdiv t321 t322)) > 1000000000)), (by first | rfl | (simp; done) | (simp [*]; done) | (simp [wrap64]; done)), H', ⟨by first | omega | exact Nat.le_refl _⟩, ⟨by (with_reducible repeat (first | refine blk_drewN ?_ _ | refine blk_drew ?_ | refine blk_alloc ?_ _)); exact BK319.out⟩, ⟨by repeat (first | (with_reducible first | exact HB.out | apply below_alloc | apply pw_below_drewN | apply below_drew1 | refine below_set ?_ GE319.out) | exact HB.out)⟩⟩
     case rest =>
      clear HC10
      try clear c1
      try clear p2
      try clear c3
      try clear c3b0
      try clear c3b1
      try clear c5
      try clear c6
      try clear c7
      try clear c9
      try clear c9b0
      try clear c9b1
      try clear c12
      try clear c12b0
      try clear hcz5_0
      try clear hcz5_1
      try clear hfz5_0
      try clear hfz5_1
      obtain ⟨kq, x30_9, rfl, HA, HJ9, BK319, HB⟩ := hcut
      cases kq with
      | zero => exact absurd HA.out (by simp [partitaref01_Of.j0])
      | succ kj9 =>
       have H := HA.out
       clear HA
       simp only [partitaref01_Of.j0] at H
       by_cases c13 : x30_9 = true
       · subst c13
         have H1 : (some (0, 0, 10)) = some (r1, r2, r3) := by rw [if_pos rfl] at H; exact H
         clear H
         have H := H1
         clear H1
         simp only [Option.some.injEq, Prod.mk.injEq] at H
         obtain ⟨rfl, rfl, rfl⟩ := H
         have hcz14_0 : wc.cell? ⟨gb319, 0, none⟩ = some (.int .i64 0) := (blk_cell BK319.out 0).trans rfl
         have hcz14_1 : wc.cell? ⟨gb319, 1, none⟩ = some (.int .i64 0) := (blk_cell BK319.out 1).trans rfl
         have hfz14_0 := blk_frozen BK319.out 0
         have hfz14_1 := blk_frozen BK319.out 1
         go_wp2
         refine bodyPost_ret (results_ct rfl _ _ gb319 72 #[.int .i64 0, .int .i64 0] (0, 0) _ rfl (by (with_reducible repeat (first | refine blk_drewN ?_ _ | refine blk_drew ?_ | refine blk_alloc ?_ _)); refine blk_put (cs := #[.int .i64 0, .int .i64 0]) ?_ 1 _ rfl; (with_reducible repeat (first | refine blk_drewN ?_ _ | refine blk_drew ?_ | refine blk_alloc ?_ _)); refine blk_put (cs := #[.int .i64 0, .int .i64 0]) ?_ 0 _ rfl; (with_reducible repeat (first | refine blk_drewN ?_ _ | refine blk_drew ?_ | refine blk_alloc ?_ _)); exact BK319.out) Tryz.underlying72 rfl (by kernel_rfl)) rfl ?_
         exact ⟨by first | rfl | (simp [errW_none, errW_some] <;> rfl) | (simp [*, errW_none, errW_some] <;> rfl), by repeat (first | (with_reducible first | exact HB.out | apply below_alloc | apply pw_below_drewN | apply below_drew1 | refine below_set ?_ GE319.out) | exact HB.out)⟩
       · replace c13 := Bool.eq_false_iff.mpr c13
         subst c13
         have H1 : (if ((decide (a0 < 0)) != (decide (a1 < 0))) = true then (some (wrap64 (-(wrap64 ((IntKind.u64.wrap (Int.tdiv t320 t322))))), wrap64 ((IntKind.u64.wrap (Int.tdiv t321 t322))), 0)) else (some (wrap64 ((IntKind.u64.wrap (Int.tdiv t320 t322))), wrap64 ((IntKind.u64.wrap (Int.tdiv t321 t322))), 0))) = some (r1, r2, r3) := by rw [if_neg (show ¬ (false = true) by decide)] at H; exact H
         clear H
         have H := H1
         clear H1
         by_cases c15 : ((decide (a0 < 0)) != (decide (a1 < 0))) = true
         · rw [if_pos c15] at H
           have c15b0 : ((decide (a0 < 0)) != (decide (a1 < 0))) = true := c15
           (try (have c15b1 : decide ((decide (a0 < 0)) = (decide (a1 < 0))) = false := by simpa using c15))
           (try (have c15b2 : ((decide (a0 < 0)) == (decide (a1 < 0))) = false := by simpa using c15))
           (try (have c15b3 : ¬ ((decide (a0 < 0)) = (decide (a1 < 0))) := by simpa using c15))
           clear c15
           simp only [Option.some.injEq, Prod.mk.injEq] at H
           obtain ⟨rfl, rfl, rfl⟩ := H
           have hcz16_0 : wc.cell? ⟨gb319, 0, none⟩ = some (.int .i64 0) := (blk_cell BK319.out 0).trans rfl
           have hcz16_1 : wc.cell? ⟨gb319, 1, none⟩ = some (.int .i64 0) := (blk_cell BK319.out 1).trans rfl
           have hfz16_0 := blk_frozen BK319.out 0
           have hfz16_1 := blk_frozen BK319.out 1
           go_wp2
           refine bodyPost_ret (results_ct rfl _ _ gb319 72 #[.int .i64 (wrap64 (-(wrap64 ((IntKind.u64.wrap (Int.tdiv t320 t322)))))), .int .i64 (wrap64 ((IntKind.u64.wrap (Int.tdiv t321 t322))))] (0, 0) _ rfl (by (with_reducible repeat (first | refine blk_drewN ?_ _ | refine blk_drew ?_ | refine blk_alloc ?_ _)); refine blk_put (cs := #[.int .i64 (wrap64 (-(wrap64 ((IntKind.u64.wrap (Int.tdiv t320 t322)))))), .int .i64 0]) ?_ 1 _ rfl; (with_reducible repeat (first | refine blk_drewN ?_ _ | refine blk_drew ?_ | refine blk_alloc ?_ _)); refine blk_put (cs := #[.int .i64 0, .int .i64 0]) ?_ 0 _ rfl; (with_reducible repeat (first | refine blk_drewN ?_ _ | refine blk_drew ?_ | refine blk_alloc ?_ _)); exact BK319.out) Tryz.underlying72 rfl (by kernel_rfl)) rfl ?_
           exact ⟨by first | rfl | (simp [errW_none, errW_some] <;> rfl) | (simp [*, errW_none, errW_some] <;> rfl), by repeat (first | (with_reducible first | exact HB.out | apply below_alloc | apply pw_below_drewN | apply below_drew1 | refine below_set ?_ GE319.out) | exact HB.out)⟩
         · rw [if_neg c15] at H
           have c15b0 : ((decide (a0 < 0)) != (decide (a1 < 0))) = false := by simpa using c15
           (try (have c15b1 : decide ((decide (a0 < 0)) = (decide (a1 < 0))) = true := by simpa using c15))
           (try (have c15b2 : ((decide (a0 < 0)) == (decide (a1 < 0))) = true := by simpa using c15))
           clear c15
           simp only [Option.some.injEq, Prod.mk.injEq] at H
           obtain ⟨rfl, rfl, rfl⟩ := H
           have hcz17_0 : wc.cell? ⟨gb319, 0, none⟩ = some (.int .i64 0) := (blk_cell BK319.out 0).trans rfl
           have hcz17_1 : wc.cell? ⟨gb319, 1, none⟩ = some (.int .i64 0) := (blk_cell BK319.out 1).trans rfl
           have hfz17_0 := blk_frozen BK319.out 0
           have hfz17_1 := blk_frozen BK319.out 1
           go_wp2
           refine bodyPost_ret (results_ct rfl _ _ gb319 72 #[.int .i64 (wrap64 ((IntKind.u64.wrap (Int.tdiv t320 t322)))), .int .i64 (wrap64 ((IntKind.u64.wrap (Int.tdiv t321 t322))))] (0, 0) _ rfl (by (with_reducible repeat (first | refine blk_drewN ?_ _ | refine blk_drew ?_ | refine blk_alloc ?_ _)); refine blk_put (cs := #[.int .i64 (wrap64 ((IntKind.u64.wrap (Int.tdiv t320 t322)))), .int .i64 0]) ?_ 1 _ rfl; (with_reducible repeat (first | refine blk_drewN ?_ _ | refine blk_drew ?_ | refine blk_alloc ?_ _)); refine blk_put (cs := #[.int .i64 0, .int .i64 0]) ?_ 0 _ rfl; (with_reducible repeat (first | refine blk_drewN ?_ _ | refine blk_drew ?_ | refine blk_alloc ?_ _)); exact BK319.out) Tryz.underlying72 rfl (by kernel_rfl)) rfl ?_
           exact ⟨by first | rfl | (simp [errW_none, errW_some] <;> rfl) | (simp [*, errW_none, errW_some] <;> rfl), by repeat (first | (with_reducible first | exact HB.out | apply below_alloc | apply pw_below_drewN | apply below_drew1 | refine below_set ?_ GE319.out) | exact HB.out)⟩

end Go.Proofs.YtocjbedacnlaaaaGreatDoor.Q
