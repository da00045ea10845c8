-- Written by a program of this session (myprint.py), function by function.
import Derived.Test.YtocjbedacnlaaaaGreatDoorQ0
import Derived.Test.YtocjbedacnlaaaaGreatDoorQ9
import Derived.Test.YtocjbedacnlaaaaGreatDoorQ10
import Derived.Test.YtocjbedacnlaaaaGreatDoorHandA
import Derived.Test.YtocjbedacnlaaaaGreatDoorSmallMost
namespace Go.Proofs.YtocjbedacnlaaaaGreatDoor.Q
open Go.RowKit Go.Proofs.YtocjbedacnlaaaaGreatDoorW.PrintWords Go.Proofs.YtocjbedacnlaaaaGreatDoorW.PrintLast Go.Proofs.YtocjbedacnlaaaaGreatDoorW.PrintMore
attribute [local go_sem] max2_int min2_int max_two min_two max_three min_three max_four min_four   -- for this text's walks alone
set_option linter.unusedVariables false
set_option linter.unusedSimpArgs false

/-! ### voice_sums: function 40 -/
def voice_sums.l0 : Nat → List (S72) → List (S41) → Int → Int → Option ((List (S72)) × Int)
 | 0, _, _, _, _ => none
 | k + 1, x6, x24, x25, x26 => if x26 < x25 then (if 0 ≤ x26 then (if x26 < (x24.length : Int) then ((event_Length.f k ((rd_T41 x24 x26).f0) ((rd_T41 x24 x26).f1) ((rd_T41 x24 x26).f2) ((rd_T41 x24 x26).f3.f0) ((rd_T41 x24 x26).f3.f1) ((rd_T41 x24 x26).f3.f2) ((rd_T41 x24 x26).f3.f3) ((rd_T41 x24 x26).f4) ((rd_T41 x24 x26).f5)).bind fun bt206 => (if x26 < (x6.length : Int) then ((ratio_Add.f ((rd_T72 x6 x26).f0) ((rd_T72 x6 x26).f1) bt206.1 bt206.2.1).bind fun bt211 => (if bt211.2.2 = 0 then (if x6.length < 8796093022208 then (voice_sums.l0 k (x6 ++ [(⟨bt211.1, bt211.2.1⟩ : S72)]) x24 x25 (wrap64 (x26 + 1))) else (none)) else (some (([] : List (S72)), bt211.2.2)))) else (none))) else (none)) else (none)) else (some (x6, 0))
def voice_sums.f (k : Nat) (l0_0 : List (S41)) : Option ((List (S72)) × Int) := (voice_Check.f l0_0).bind fun bt199 => (if bt199.2 = 0 then (voice_sums.l0 k (([(⟨0, 1⟩ : S72)] : List (S72))) l0_0 (l0_0.length : Int) 0) else (some (([] : List (S72)), bt199.2)))
theorem voice_sums.mono_l : ∀ k, (∀ y0 y1 y2 y3, LeO (voice_sums.l0 k y0 y1 y2 y3) (voice_sums.l0 (k + 1) y0 y1 y2 y3))
 | 0 => fun _ _ _ _ r h => by simp [voice_sums.l0] at h
 | k + 1 => by
  have ih0 := voice_sums.mono_l k
  · intro y0 y1 y2 y3
    unfold voice_sums.l0
    repeat' first
    | (with_reducible exact ih0 _ _ _ _)
    | (with_reducible exact event_Length.mono _ _ _ _ _ _ _ _ _ _)
    | (with_reducible exact LeO.refl _)
    | (with_reducible exact LeO.none _)
    | (with_reducible refine LeO.ite ?_ ?_)
    | (with_reducible refine LeO.bind ?_ (fun _ => ?_))
    | exact ih0 _ _ _ _
    | exact event_Length.mono _ _ _ _ _ _ _ _ _ _
    | exact LeO.none _
    | refine LeO.ite ?_ ?_
    | refine LeO.bind ?_ (fun _ => ?_)
theorem voice_sums.mono : ∀ a0 k, LeO (voice_sums.f k a0) (voice_sums.f (k + 1) a0) := by
 intro a0 k
 have ih0 := voice_sums.mono_l k
 unfold voice_sums.f
 repeat' first
  | (with_reducible exact ih0 _ _ _ _)
  | (with_reducible exact event_Length.mono _ _ _ _ _ _ _ _ _ _)
  | (with_reducible exact LeO.refl _)
  | (with_reducible exact LeO.none _)
  | (with_reducible refine LeO.ite ?_ ?_)
  | (with_reducible refine LeO.bind ?_ (fun _ => ?_))
  | exact ih0 _ _ _ _
  | exact event_Length.mono _ _ _ _ _ _ _ _ _ _
  | exact LeO.none _
  | refine LeO.ite ?_ ?_
  | refine LeO.bind ?_ (fun _ => ?_)
def voice_sums.T9 : Bool × List (List Nat × List Nat) := (true, [([], []), ([], []), ([0, 1], [0, 1]), ([2], [2]), ([], []), ([3, 4], [3, 4]), ([5], [5]), ([6], [6]), ([6], [6]), ([], []), ([9, 7, 5, 0, 1, 2, 3, 4, 5, 6, 7, 9], [7, 9]), ([8, 10, 0, 1, 2, 3, 4, 5, 6, 7, 8, 9, 10], [8])])
def voice_sums.B9 : List Nat := [0, 0, 3, 7, 0, 31, 63, 127, 127, 0, 767, 2047]
theorem voice_sums.tab9 : rtab .any (opsOf Tryz.f40 9) = voice_sums.T9 := by kernel_rfl
theorem voice_sums.bits9 : waitsOk voice_sums.T9.2 voice_sums.B9 = true := by kernel_rfl
set_option maxHeartbeats 8000000 in
set_option maxRecDepth 100000 in
theorem voice_sums.calls (k : Nat) (A0_0 : Option Addr) (c0_0 : Nat) (l0_0 : List (S41)) (r1 : List (S72)) (r2 : Int) (w : World) (hr0_0 : Kd.C k41 w A0_0 l0_0.length l0_0) (hc0_0 : l0_0.length ≤ c0_0) (h : voice_sums.f k l0_0 = some (r1, r2)) (SENTS : Aside0 (SentsE w) := by exact sents_step (by assumption) (by repeat (first | (with_reducible first | exact (by assumption : Aside0 (Below _ _ _)).out | apply below_alloc | apply pw_below_drewN | apply below_drew1 | refine below_set ?_ (Aside0.out (by assumption)))))) :
 Calls Tryz.prog 40 #[.agg #[.slice A0_0 l0_0.length c0_0]] w fun e w' => ∃ v0_ : Value, e = .returned (.tuple #[v0_, .int .i64 r2]) ∧ Kd.R k72 72 w' w.heap.size (fun _ => True) v0_ r1 ∧ Below w.heap.size w w' := by
 have hu32 := Tryz.underlying32
 have hu72 := Tryz.underlying72
 have hu41 := Tryz.underlying41
 have HR0_0 := Aside0.mk hr0_0
 have HC0_0 := Aside0.mk hc0_0
 clear hr0_0 hc0_0
 have HB := Aside0.mk (Below.refl w.heap.size w)
 have H : ((voice_Check.f l0_0).bind fun bt199 => (if bt199.2 = 0 then (voice_sums.l0 k (([(⟨0, 1⟩ : S72)] : List (S72))) l0_0 (l0_0.length : Int) 0) else (some (([] : List (S72)), bt199.2)))) = some (r1, r2) := h
 clear h
 replace H := Option.bind_eq_some_iff.mp H
 obtain ⟨⟨t199, t200⟩, A20, H⟩ := H
 replace H : (if t200 = 0 then (voice_sums.l0 k (([(⟨0, 1⟩ : S72)] : List (S72))) l0_0 (l0_0.length : Int) 0) else (some (([] : List (S72)), t200))) = some (r1, r2) := H
 have A2 := Aside0.mk A20
 clear A20
 by_cases c3 : t200 = 0
 · rw [if_pos c3] at H
   have c3b0 : (t200 == 0) = true := beq_iff_eq.mpr c3
   have c3b1 : (t200 != 0) = false := bne_eq_false_iff_eq.mpr c3
   clear c3
   obtain ⟨y201, hy201⟩ : ∃ y_ : List (S72), y_ = (([(⟨0, 1⟩ : S72)] : List (S72))) := ⟨_, rfl⟩
   replace H : (voice_sums.l0 k y201 l0_0 (l0_0.length : Int) 0) = some (r1, r2) := by first | (rw [hy201]; with_reducible exact H) | (have H2_ := (Option.bind_some _ _).symm.trans H; rw [hy201]; with_reducible exact H2_) | (have H2_ := (Option.bind_some _ _).symm.trans H; with_reducible exact H2_) | with_reducible exact H | (rw [hy201]; exact H) | exact H
   have Ny201 := Aside0.mk hy201
   clear hy201
   have H' := Aside0.mk H
   clear H
   go_enter Tryz.func40, Tryz.ntmps40
   go_wp2_with (first | ((with_reducible refine gate_dst (N := 1) rfl ?_); refine box_event ?hg (N := 1) ?hd (cs := #[.slice A0_0 l0_0.length c0_0]) (t := 32) ?hr ?_; (case hd => rfl); (case hg => rfl); (case hr => first | (go_simp; done) | (go_simp; rfl)); intro gb198 hg w4 hbox hb; have BK198 := Aside0.mk (hbox); have GW198 := qT HB hg; have GE198 := qS HB hg; replace HB := Aside0.mk (below_step (qW HB.out) hb); clear hb hbox hg; have hcz5_0 := qC BK198 0 rfl; have hfz5_0 := blk_frozen BK198.out 0) | ((with_reducible refine gate_callee (f := 59) rfl ?_); refine goesL_ (some 15) rfl rfl Tryz.func59 (by kernel_rfl) rfl #[.agg #[.slice A0_0 l0_0.length c0_0]] rfl (by (try simp only [List.map_toArray, List.map_cons, List.map_nil]); first | done | rfl | (simp only [List.length_drop, List.length_take]; rfl)) ?_; (with_reducible refine (voice_Check.calls _ _ l0_0 t199 t200 _ ?side1 ?side2 A2.out).mono ?_); (case side1 => repeat (first | exact (Kd.C_below HR0_0.out HB.out) | (with_reducible refine Kd.C_alloc ?_ _) | (with_reducible refine Kd.C_drewN ?_ _) | (with_reducible refine Kd.C_drew ?_))); (case side2 => exact HC0_0.out); rintro e w6 ⟨rfl, hb⟩; refine ⟨_, rfl, ?_⟩; replace BK198 := qD BK198 hb; replace HB := Aside0.mk (below_step (qW HB.out) hb); (try clear hb); (try clear hb2); (try clear hk); (try clear hi)) | ((with_reducible refine gate_dst (N := 22) rfl ?_); refine Kd.R_lit k72 _ 72 ?hg (N := 22) ?hd (xs := ([(⟨0, 1⟩ : S72)] : List (S72))) (inner := [.int .i64 0, .int .i64 1]) (ok := fun _ => True) (okp := fun _ => True) ?hr ?hp (fun _ hk => hk) trivial (Below.refl _ _) (Nat.le_refl _) (by simp) ?_; (case hd => rfl); (case hg => rfl); (case hr => first | (go_simp; done) | (go_simp; rfl)); (case hp => exact (Reps.c2 (show Kd.M k72 _ _ _ (⟨0, 1⟩ : S72) [.int .i64 0, .int .i64 1] from (k72_mkM _ _ _ (⟨0, 1⟩ : S72) )) (Reps.none _ _))); intro v202 w7 ho8 hb hg_ hnew_; clear hg_ hnew_; (first | rw [← Ny201.out] at ho8 | (simp only [Int.reduceToNat] at ho8; rw [← Ny201.out] at ho8)); have HO203 := Aside0.mk (Kd.R_lower ho8 (below_size (qW HB.out))); replace BK198 := qD BK198 hb; replace HB := Aside0.mk (below_step (qW HB.out) hb); clear hb ho8; have hcz9_0 := qC BK198 0 rfl; have hfz9_0 := blk_frozen BK198.out 0))
   go_loopg [6, 26] k (fun kq v6 v26 w' => ∃ (x6_1 : List (S72)) (x26_1 : Int), v26 = .int .i64 x26_1 ∧ Aside0 (voice_sums.l0 kq x6_1 l0_0 (l0_0.length : Int) x26_1 = some (r1, r2)) ∧ Aside0 (kq ≤ k) ∧ Aside0 (Kd.R k72 72 w' w.heap.size (fun _ => True) v6 x6_1) ∧ Aside0 (w'.heap[gb198]? = some (.cells #[(.slice A0_0 l0_0.length c0_0)] 32 (0, 0))) ∧ Aside0 (Below w.heap.size w w'))
   case atStart => exact ⟨(y201), (0), (by first | rfl | (simp; done) | (simp [*]; done)), H', ⟨Nat.le_refl _⟩, ⟨by (with_reducible repeat (first | apply Kd.R_alloc | apply Kd.R_drewN | apply Kd.R_drew)); exact HO203.out⟩, ⟨by (with_reducible repeat (first | refine blk_drewN ?_ _ | refine blk_drew ?_ | refine blk_alloc ?_ _)); exact BK198.out⟩, ⟨by exact qW HB.out⟩⟩
   case round =>
    clear H'
    try clear c2
    try clear p2
    try clear c3
    try clear c3b0
    try clear c3b1
    try clear c4
    try clear c5
    try clear hcz5_0
    try clear hcz9_0
    try clear hfz5_0
    try clear hfz9_0
    obtain ⟨x6_1, x26_1, rfl, HA, HK1, HO_6, BK198, HB⟩ := hrel
    cases gk with
    | zero => exact absurd HA.out (by simp [voice_sums.l0])
    | succ k1 =>
     have H := HA.out
     clear HA
     simp only [voice_sums.l0] at H
     by_cases c10 : x26_1 < (l0_0.length : Int)
     · rw [if_pos c10] at H
       have c10b0 : decide (x26_1 < (l0_0.length : Int)) = true := decide_eq_true c10
       clear c10
       by_cases c11 : 0 ≤ x26_1
       · rw [if_pos c11] at H
         have c11b0 : decide (0 ≤ x26_1) = true := decide_eq_true c11
         clear c11
         by_cases c12 : x26_1 < (l0_0.length : Int)
         · rw [if_pos c12] at H
           have c12b0 : decide (x26_1 < (l0_0.length : Int)) = true := decide_eq_true c12
           clear c12
           replace H := Option.bind_eq_some_iff.mp H
           obtain ⟨⟨t206, t207, t208⟩, A130, H⟩ := H
           replace H : (if x26_1 < (x6_1.length : Int) then ((ratio_Add.f ((rd_T72 x6_1 x26_1).f0) ((rd_T72 x6_1 x26_1).f1) t206 t207).bind fun bt211 => (if bt211.2.2 = 0 then (if x6_1.length < 8796093022208 then (voice_sums.l0 k1 (x6_1 ++ [(⟨bt211.1, bt211.2.1⟩ : S72)]) l0_0 (l0_0.length : Int) (wrap64 (x26_1 + 1))) else (none)) else (some (([] : List (S72)), bt211.2.2)))) else (none)) = some (r1, r2) := H
           have A13 := Aside0.mk A130
           clear A130
           by_cases c14 : x26_1 < (x6_1.length : Int)
           · rw [if_pos c14] at H
             have c14b0 : decide (x26_1 < (x6_1.length : Int)) = true := decide_eq_true c14
             clear c14
             replace H := Option.bind_eq_some_iff.mp H
             obtain ⟨⟨t211, t212, t213⟩, A150, H⟩ := H
             replace H : (if t213 = 0 then (if x6_1.length < 8796093022208 then (voice_sums.l0 k1 (x6_1 ++ [(⟨t211, t212⟩ : S72)]) l0_0 (l0_0.length : Int) (wrap64 (x26_1 + 1))) else (none)) else (some (([] : List (S72)), t213))) = some (r1, r2) := H
             have A15 := Aside0.mk A150
             clear A150
             by_cases c16 : t213 = 0
             · rw [if_pos c16] at H
               have c16b0 : (t213 == 0) = true := beq_iff_eq.mpr c16
               have c16b1 : (t213 != 0) = false := bne_eq_false_iff_eq.mpr c16
               clear c16
               by_cases c17 : x6_1.length < 8796093022208
               · rw [if_pos c17] at H
                 have LMc17 := Aside0.mk c17
                 clear c17
                 obtain ⟨y215, hy215⟩ : ∃ y_ : List (S72), y_ = (x6_1 ++ [(⟨t211, t212⟩ : S72)]) := ⟨_, rfl⟩
                 replace H : (voice_sums.l0 k1 y215 l0_0 (l0_0.length : Int) (wrap64 (x26_1 + 1))) = some (r1, r2) := by first | (rw [hy215]; with_reducible exact H) | (have H2_ := (Option.bind_some _ _).symm.trans H; rw [hy215]; with_reducible exact H2_) | (have H2_ := (Option.bind_some _ _).symm.trans H; with_reducible exact H2_) | with_reducible exact H | (rw [hy215]; exact H) | exact H
                 have Ny215 := Aside0.mk hy215
                 clear hy215
                 have H' := Aside0.mk H
                 clear H
                 have p204 : 0 ≤ (x26_1 : Int) := of_decide_eq_true (by first | (with_reducible assumption) | assumption)
                 have q204 : x26_1 < (l0_0.length : Int) := of_decide_eq_true (by first | (with_reducible assumption) | assumption)
                 obtain ⟨ad204, A204_1, c204_1, A204_2, c204_2, A204_7, c204_7, e204, hx204_0, hx204_1, hx204_2, hx204_3, hx204_4, hx204_5, hx204_6, hx204_7, hx204_8, hl204_1, hi204_1, hl204_2, hi204_2, hl204_7, hi204_7⟩ := at_T41 HR0_0.out x26_1 p204 q204
                 cases e204
                 replace hx204_0 := (HB.out.cell (World.block_lt_of_cell? w _ hx204_0)).trans hx204_0
                 replace hx204_1 := (HB.out.cell (World.block_lt_of_cell? w _ hx204_1)).trans hx204_1
                 replace hx204_2 := (HB.out.cell (World.block_lt_of_cell? w _ hx204_2)).trans hx204_2
                 replace hx204_3 := (HB.out.cell (World.block_lt_of_cell? w _ hx204_3)).trans hx204_3
                 replace hx204_4 := (HB.out.cell (World.block_lt_of_cell? w _ hx204_4)).trans hx204_4
                 replace hx204_5 := (HB.out.cell (World.block_lt_of_cell? w _ hx204_5)).trans hx204_5
                 replace hx204_6 := (HB.out.cell (World.block_lt_of_cell? w _ hx204_6)).trans hx204_6
                 replace hx204_7 := (HB.out.cell (World.block_lt_of_cell? w _ hx204_7)).trans hx204_7
                 replace hx204_8 := (HB.out.cell (World.block_lt_of_cell? w _ hx204_8)).trans hx204_8
                 have HR204_1 := Aside0.mk hi204_1
                 have HC204_1 := Aside0.mk hl204_1
                 clear hi204_1 hl204_1
                 have HR204_2 := Aside0.mk hi204_2
                 have HC204_2 := Aside0.mk hl204_2
                 clear hi204_2 hl204_2
                 have HR204_7 := Aside0.mk hi204_7
                 have HC204_7 := Aside0.mk hl204_7
                 clear hi204_7 hl204_7
                 replace p204 := eq_true p204
                 replace q204 := eq_true q204
                 try go_wp2_with (first | ((with_reducible refine gate_dst (N := 8) rfl ?_); refine box_event ?hg (N := 8) ?hd (cs := #[.int .i64 0, .slice none 0 0, .slice none 0 0, .int .i64 0, .int .i64 0, .int .i64 0, .int .i64 0, .slice none 0 0, .string (⟨#[]⟩ : ByteArray)]) (t := 41) ?hr ?_; (case hd => rfl); (case hg => rfl); (case hr => first | (go_simp; done) | (go_simp; rfl)); intro gb205 hg w18 hbox hb; replace HO_6 := qE HO_6 hb; have BK205 := Aside0.mk (hbox); have GW205 := qT HB hg; have GE205 := qS HB hg; replace HB := Aside0.mk (below_step (qW HB.out) hb); have NB198_205 := Aside0.mk ((by rw [hg]; exact Nat.ne_of_lt (blk_lt (g := gb198) (o := .cells #[.slice (some ad204) l0_0.length c0_0] 32 (0, 0)) (qB BK198.out)) : gb198 ≠ gb205)); have NB205_198 := Aside0.mk ((by rw [hg]; exact Nat.ne_of_gt (blk_lt (g := gb198) (o := .cells #[.slice (some ad204) l0_0.length c0_0] 32 (0, 0)) (qB BK198.out)) : gb205 ≠ gb198)); replace BK198 := Aside0.mk (blk_below (g := gb198) (o := .cells #[.slice (some ad204) l0_0.length c0_0] 32 (0, 0)) (qB BK198.out) hb); clear hb hbox hg; have hnb19 := NB205_198.out; have hnc19 := NB198_205.out; have hcz20_0 := qC BK205 0 rfl; have hcz20_1 := qC BK205 1 rfl; have hcz20_2 := qC BK205 2 rfl; have hcz20_3 := qC BK205 3 rfl; have hcz20_4 := qC BK205 4 rfl; have hcz20_5 := qC BK205 5 rfl; have hcz20_6 := qC BK205 6 rfl; have hcz20_7 := qC BK205 7 rfl; have hcz20_8 := qC BK205 8 rfl; have hfz20_0 := blk_frozen BK205.out 0; have hfz20_1 := blk_frozen BK205.out 1; have hfz20_2 := blk_frozen BK205.out 2; have hfz20_3 := blk_frozen BK205.out 3; have hfz20_4 := blk_frozen BK205.out 4; have hfz20_5 := blk_frozen BK205.out 5; have hfz20_6 := blk_frozen BK205.out 6; have hfz20_7 := blk_frozen BK205.out 7; have hfz20_8 := blk_frozen BK205.out 8) | ((with_reducible refine gate_callee (f := 60) rfl ?_); refine goesL_ (some 33) rfl rfl Tryz.func60 (by kernel_rfl) rfl #[.agg #[.int .i64 ((rd_T41 l0_0 x26_1).f0), .slice A204_1 ((rd_T41 l0_0 x26_1).f1).length c204_1, .slice A204_2 ((rd_T41 l0_0 x26_1).f2).length c204_2, .int .i64 ((rd_T41 l0_0 x26_1).f3.f0), .int .i64 ((rd_T41 l0_0 x26_1).f3.f1), .int .i64 ((rd_T41 l0_0 x26_1).f3.f2), .int .i64 ((rd_T41 l0_0 x26_1).f3.f3), .slice A204_7 ((rd_T41 l0_0 x26_1).f4).length c204_7, .string ((rd_T41 l0_0 x26_1).f5)]] rfl (by (try simp only [List.map_toArray, List.map_cons, List.map_nil]); first | done | rfl | (simp only [List.length_drop, List.length_take]; rfl)) ?_; (with_reducible refine (event_Length.calls k1 ((rd_T41 l0_0 x26_1).f0) _ _ ((rd_T41 l0_0 x26_1).f1) _ _ ((rd_T41 l0_0 x26_1).f2) ((rd_T41 l0_0 x26_1).f3.f0) ((rd_T41 l0_0 x26_1).f3.f1) ((rd_T41 l0_0 x26_1).f3.f2) ((rd_T41 l0_0 x26_1).f3.f3) _ _ ((rd_T41 l0_0 x26_1).f4) ((rd_T41 l0_0 x26_1).f5) t206 t207 t208 _ ?side1 ?side2 ?side3 ?side4 ?side5 ?side6 A13.out).mono ?_); (case side1 => exact Kd.C_below HR204_1.out (qW HB.out)); (case side2 => exact HC204_1.out); (case side3 => exact Kd.C_below HR204_2.out (qW HB.out)); (case side4 => exact HC204_2.out); (case side5 => exact Kd.C_below HR204_7.out (qW HB.out)); (case side6 => exact HC204_7.out); rintro e w21 ⟨rfl, hb⟩; refine ⟨_, rfl, ?_⟩; replace HO_6 := Aside0.mk (Kd.R_below (qR ((Kd.R_mono (Kd.R_far (p := ⟨gb205, 8, none⟩) (Kd.R_far (p := ⟨gb205, 7, none⟩) (Kd.R_far (p := ⟨gb205, 6, none⟩) (Kd.R_far (p := ⟨gb205, 5, none⟩) (Kd.R_far (p := ⟨gb205, 4, none⟩) (Kd.R_far (p := ⟨gb205, 3, none⟩) (Kd.R_far (p := ⟨gb205, 2, none⟩) (Kd.R_far (p := ⟨gb205, 1, none⟩) (Kd.R_far (p := ⟨gb205, 0, none⟩) (Kd.R_types HO_6.out BK205.out (by decide)) (fun _ hk => hk.2) (.int .i64 ((rd_T41 l0_0 x26_1).f0))) (fun _ hk => hk.2) (.slice A204_1 ((rd_T41 l0_0 x26_1).f1).length c204_1)) (fun _ hk => hk.2) (.slice A204_2 ((rd_T41 l0_0 x26_1).f2).length c204_2)) (fun _ hk => hk.2) (.int .i64 ((rd_T41 l0_0 x26_1).f3.f0))) (fun _ hk => hk.2) (.int .i64 ((rd_T41 l0_0 x26_1).f3.f1))) (fun _ hk => hk.2) (.int .i64 ((rd_T41 l0_0 x26_1).f3.f2))) (fun _ hk => hk.2) (.int .i64 ((rd_T41 l0_0 x26_1).f3.f3))) (fun _ hk => hk.2) (.slice A204_7 ((rd_T41 l0_0 x26_1).f4).length c204_7)) (fun _ hk => hk.2) (.string ((rd_T41 l0_0 x26_1).f5))) (fun _ h_ => h_.1)))) hb); replace BK198 := Aside0.mk (blk_below (g := gb198) (o := .cells #[.slice (some ad204) l0_0.length c0_0] 32 (0, 0)) (by (with_reducible repeat (first | refine blk_drewN ?_ _ | refine blk_drew ?_ | refine blk_alloc ?_ _)); refine blk_far ?_ NB198_205.out _; (with_reducible repeat (first | refine blk_drewN ?_ _ | refine blk_drew ?_ | refine blk_alloc ?_ _)); refine blk_far ?_ NB198_205.out _; (with_reducible repeat (first | refine blk_drewN ?_ _ | refine blk_drew ?_ | refine blk_alloc ?_ _)); refine blk_far ?_ NB198_205.out _; (with_reducible repeat (first | refine blk_drewN ?_ _ | refine blk_drew ?_ | refine blk_alloc ?_ _)); refine blk_far ?_ NB198_205.out _; (with_reducible repeat (first | refine blk_drewN ?_ _ | refine blk_drew ?_ | refine blk_alloc ?_ _)); refine blk_far ?_ NB198_205.out _; (with_reducible repeat (first | refine blk_drewN ?_ _ | refine blk_drew ?_ | refine blk_alloc ?_ _)); refine blk_far ?_ NB198_205.out _; (with_reducible repeat (first | refine blk_drewN ?_ _ | refine blk_drew ?_ | refine blk_alloc ?_ _)); refine blk_far ?_ NB198_205.out _; (with_reducible repeat (first | refine blk_drewN ?_ _ | refine blk_drew ?_ | refine blk_alloc ?_ _)); refine blk_far ?_ NB198_205.out _; (with_reducible repeat (first | refine blk_drewN ?_ _ | refine blk_drew ?_ | refine blk_alloc ?_ _)); refine blk_far ?_ NB198_205.out _; (with_reducible repeat (first | refine blk_drewN ?_ _ | refine blk_drew ?_ | refine blk_alloc ?_ _)); exact BK198.out) hb); replace BK205 := Aside0.mk (blk_below (g := gb205) (o := .cells #[.int .i64 ((rd_T41 l0_0 x26_1).f0), .slice A204_1 ((rd_T41 l0_0 x26_1).f1).length c204_1, .slice A204_2 ((rd_T41 l0_0 x26_1).f2).length c204_2, .int .i64 ((rd_T41 l0_0 x26_1).f3.f0), .int .i64 ((rd_T41 l0_0 x26_1).f3.f1), .int .i64 ((rd_T41 l0_0 x26_1).f3.f2), .int .i64 ((rd_T41 l0_0 x26_1).f3.f3), .slice A204_7 ((rd_T41 l0_0 x26_1).f4).length c204_7, .string ((rd_T41 l0_0 x26_1).f5)] 41 (0, 0)) (by (with_reducible repeat (first | refine blk_drewN ?_ _ | refine blk_drew ?_ | refine blk_alloc ?_ _)); refine blk_put (cs := #[.int .i64 ((rd_T41 l0_0 x26_1).f0), .slice A204_1 ((rd_T41 l0_0 x26_1).f1).length c204_1, .slice A204_2 ((rd_T41 l0_0 x26_1).f2).length c204_2, .int .i64 ((rd_T41 l0_0 x26_1).f3.f0), .int .i64 ((rd_T41 l0_0 x26_1).f3.f1), .int .i64 ((rd_T41 l0_0 x26_1).f3.f2), .int .i64 ((rd_T41 l0_0 x26_1).f3.f3), .slice A204_7 ((rd_T41 l0_0 x26_1).f4).length c204_7, .string (⟨#[]⟩ : ByteArray)]) ?_ 8 _ rfl; (with_reducible repeat (first | refine blk_drewN ?_ _ | refine blk_drew ?_ | refine blk_alloc ?_ _)); refine blk_put (cs := #[.int .i64 ((rd_T41 l0_0 x26_1).f0), .slice A204_1 ((rd_T41 l0_0 x26_1).f1).length c204_1, .slice A204_2 ((rd_T41 l0_0 x26_1).f2).length c204_2, .int .i64 ((rd_T41 l0_0 x26_1).f3.f0), .int .i64 ((rd_T41 l0_0 x26_1).f3.f1), .int .i64 ((rd_T41 l0_0 x26_1).f3.f2), .int .i64 ((rd_T41 l0_0 x26_1).f3.f3), .slice none 0 0, .string (⟨#[]⟩ : ByteArray)]) ?_ 7 _ rfl; (with_reducible repeat (first | refine blk_drewN ?_ _ | refine blk_drew ?_ | refine blk_alloc ?_ _)); refine blk_put (cs := #[.int .i64 ((rd_T41 l0_0 x26_1).f0), .slice A204_1 ((rd_T41 l0_0 x26_1).f1).length c204_1, .slice A204_2 ((rd_T41 l0_0 x26_1).f2).length c204_2, .int .i64 ((rd_T41 l0_0 x26_1).f3.f0), .int .i64 ((rd_T41 l0_0 x26_1).f3.f1), .int .i64 ((rd_T41 l0_0 x26_1).f3.f2), .int .i64 0, .slice none 0 0, .string (⟨#[]⟩ : ByteArray)]) ?_ 6 _ rfl; (with_reducible repeat (first | refine blk_drewN ?_ _ | refine blk_drew ?_ | refine blk_alloc ?_ _)); refine blk_put (cs := #[.int .i64 ((rd_T41 l0_0 x26_1).f0), .slice A204_1 ((rd_T41 l0_0 x26_1).f1).length c204_1, .slice A204_2 ((rd_T41 l0_0 x26_1).f2).length c204_2, .int .i64 ((rd_T41 l0_0 x26_1).f3.f0), .int .i64 ((rd_T41 l0_0 x26_1).f3.f1), .int .i64 0, .int .i64 0, .slice none 0 0, .string (⟨#[]⟩ : ByteArray)]) ?_ 5 _ rfl; (with_reducible repeat (first | refine blk_drewN ?_ _ | refine blk_drew ?_ | refine blk_alloc ?_ _)); refine blk_put (cs := #[.int .i64 ((rd_T41 l0_0 x26_1).f0), .slice A204_1 ((rd_T41 l0_0 x26_1).f1).length c204_1, .slice A204_2 ((rd_T41 l0_0 x26_1).f2).length c204_2, .int .i64 ((rd_T41 l0_0 x26_1).f3.f0), .int .i64 0, .int .i64 0, .int .i64 0, .slice none 0 0, .string (⟨#[]⟩ : ByteArray)]) ?_ 4 _ rfl; (with_reducible repeat (first | refine blk_drewN ?_ _ | refine blk_drew ?_ | refine blk_alloc ?_ _)); refine blk_put (cs := #[.int .i64 ((rd_T41 l0_0 x26_1).f0), .slice A204_1 ((rd_T41 l0_0 x26_1).f1).length c204_1, .slice A204_2 ((rd_T41 l0_0 x26_1).f2).length c204_2, .int .i64 0, .int .i64 0, .int .i64 0, .int .i64 0, .slice none 0 0, .string (⟨#[]⟩ : ByteArray)]) ?_ 3 _ rfl; (with_reducible repeat (first | refine blk_drewN ?_ _ | refine blk_drew ?_ | refine blk_alloc ?_ _)); refine blk_put (cs := #[.int .i64 ((rd_T41 l0_0 x26_1).f0), .slice A204_1 ((rd_T41 l0_0 x26_1).f1).length c204_1, .slice none 0 0, .int .i64 0, .int .i64 0, .int .i64 0, .int .i64 0, .slice none 0 0, .string (⟨#[]⟩ : ByteArray)]) ?_ 2 _ rfl; (with_reducible repeat (first | refine blk_drewN ?_ _ | refine blk_drew ?_ | refine blk_alloc ?_ _)); refine blk_put (cs := #[.int .i64 ((rd_T41 l0_0 x26_1).f0), .slice none 0 0, .slice none 0 0, .int .i64 0, .int .i64 0, .int .i64 0, .int .i64 0, .slice none 0 0, .string (⟨#[]⟩ : ByteArray)]) ?_ 1 _ rfl; (with_reducible repeat (first | refine blk_drewN ?_ _ | refine blk_drew ?_ | refine blk_alloc ?_ _)); refine blk_put (cs := #[.int .i64 0, .slice none 0 0, .slice none 0 0, .int .i64 0, .int .i64 0, .int .i64 0, .int .i64 0, .slice none 0 0, .string (⟨#[]⟩ : ByteArray)]) ?_ 0 _ rfl; (with_reducible repeat (first | refine blk_drewN ?_ _ | refine blk_drew ?_ | refine blk_alloc ?_ _)); exact BK205.out) hb); replace HB := Aside0.mk (below_step (qW HB.out) hb); (try clear hb); (try clear hb2); (try clear hk); (try clear hi)) | ((with_reducible refine gate_dst (N := 9) rfl ?_); refine box_event ?hg (N := 9) ?hd (cs := #[.int .i64 0, .int .i64 0]) (t := 72) ?hr ?_; (case hd => rfl); (case hg => rfl); (case hr => first | (go_simp; done) | (go_simp; rfl)); intro gb209 hg w22 hbox hb; replace HO_6 := Aside0.mk (Kd.R_below (Kd.R_elderB (qR HO_6.out) gb209 (Nat.le_of_eq hg.symm)) hb); have BK209 := Aside0.mk (hbox); have GW209 := qT HB hg; have GE209 := qS HB hg; replace HB := Aside0.mk (below_step (qW HB.out) hb); have NB198_209 := Aside0.mk ((by rw [hg]; exact Nat.ne_of_lt (blk_lt (g := gb198) (o := .cells #[.slice (some ad204) l0_0.length c0_0] 32 (0, 0)) (qB BK198.out)) : gb198 ≠ gb209)); have NB209_198 := Aside0.mk ((by rw [hg]; exact Nat.ne_of_gt (blk_lt (g := gb198) (o := .cells #[.slice (some ad204) l0_0.length c0_0] 32 (0, 0)) (qB BK198.out)) : gb209 ≠ gb198)); replace BK198 := Aside0.mk (blk_below (g := gb198) (o := .cells #[.slice (some ad204) l0_0.length c0_0] 32 (0, 0)) (qB BK198.out) hb); have NB205_209 := Aside0.mk ((by rw [hg]; exact Nat.ne_of_lt (blk_lt (g := gb205) (o := .cells #[.int .i64 ((rd_T41 l0_0 x26_1).f0), .slice A204_1 ((rd_T41 l0_0 x26_1).f1).length c204_1, .slice A204_2 ((rd_T41 l0_0 x26_1).f2).length c204_2, .int .i64 ((rd_T41 l0_0 x26_1).f3.f0), .int .i64 ((rd_T41 l0_0 x26_1).f3.f1), .int .i64 ((rd_T41 l0_0 x26_1).f3.f2), .int .i64 ((rd_T41 l0_0 x26_1).f3.f3), .slice A204_7 ((rd_T41 l0_0 x26_1).f4).length c204_7, .string ((rd_T41 l0_0 x26_1).f5)] 41 (0, 0)) (qB BK205.out)) : gb205 ≠ gb209)); have NB209_205 := Aside0.mk ((by rw [hg]; exact Nat.ne_of_gt (blk_lt (g := gb205) (o := .cells #[.int .i64 ((rd_T41 l0_0 x26_1).f0), .slice A204_1 ((rd_T41 l0_0 x26_1).f1).length c204_1, .slice A204_2 ((rd_T41 l0_0 x26_1).f2).length c204_2, .int .i64 ((rd_T41 l0_0 x26_1).f3.f0), .int .i64 ((rd_T41 l0_0 x26_1).f3.f1), .int .i64 ((rd_T41 l0_0 x26_1).f3.f2), .int .i64 ((rd_T41 l0_0 x26_1).f3.f3), .slice A204_7 ((rd_T41 l0_0 x26_1).f4).length c204_7, .string ((rd_T41 l0_0 x26_1).f5)] 41 (0, 0)) (qB BK205.out)) : gb209 ≠ gb205)); replace BK205 := Aside0.mk (blk_below (g := gb205) (o := .cells #[.int .i64 ((rd_T41 l0_0 x26_1).f0), .slice A204_1 ((rd_T41 l0_0 x26_1).f1).length c204_1, .slice A204_2 ((rd_T41 l0_0 x26_1).f2).length c204_2, .int .i64 ((rd_T41 l0_0 x26_1).f3.f0), .int .i64 ((rd_T41 l0_0 x26_1).f3.f1), .int .i64 ((rd_T41 l0_0 x26_1).f3.f2), .int .i64 ((rd_T41 l0_0 x26_1).f3.f3), .slice A204_7 ((rd_T41 l0_0 x26_1).f4).length c204_7, .string ((rd_T41 l0_0 x26_1).f5)] 41 (0, 0)) (qB BK205.out) hb); clear hb hbox hg; have hnb23 := NB209_198.out; have hnc23 := NB198_209.out; have hnb24 := NB209_205.out; have hnc24 := NB205_209.out; have hcz25_0 := qC BK209 0 rfl; have hcz25_1 := qC BK209 1 rfl; have hfz25_0 := blk_frozen BK209.out 0; have hfz25_1 := blk_frozen BK209.out 1))
                 have n0_ : Aside0 (Kd.R k72 72 ((w22.setCell ⟨gb209, 0, none⟩ (.int .i64 t206)).setCell ⟨gb209, 1, none⟩ (.int .i64 t207)) w.heap.size (fun k_ => k_ ≠ gb209) u6 x6_1) := ⟨by (with_reducible repeat (first | apply Kd.R_alloc | apply Kd.R_drewN | apply Kd.R_drew)); exact Kd.R_mono (Kd.R_far (p := ⟨gb209, 1, none⟩) (Kd.R_far (p := ⟨gb209, 0, none⟩) (Kd.R_mono HO_6.out (fun k_ hk => (⟨hk, hk.2⟩ : _ ∧ k_ ≠ gb209))) (fun _ hk => hk.2) (.int .i64 t206)) (fun _ hk => hk.2) (.int .i64 t207)) (fun _ hk => hk.1.2)⟩
                 have n1_ : Aside0 (((w22.setCell ⟨gb209, 0, none⟩ (.int .i64 t206)).setCell ⟨gb209, 1, none⟩ (.int .i64 t207)).heap[gb198]? = some (.cells #[.slice (some ad204) l0_0.length c0_0] 32 (0, 0))) := ⟨by (with_reducible repeat (first | refine blk_drewN ?_ _ | refine blk_drew ?_ | refine blk_alloc ?_ _)); refine blk_far ?_ NB198_209.out _; (with_reducible repeat (first | refine blk_drewN ?_ _ | refine blk_drew ?_ | refine blk_alloc ?_ _)); refine blk_far ?_ NB198_209.out _; (with_reducible repeat (first | refine blk_drewN ?_ _ | refine blk_drew ?_ | refine blk_alloc ?_ _)); exact BK198.out⟩
                 have n2_ : Aside0 (((w22.setCell ⟨gb209, 0, none⟩ (.int .i64 t206)).setCell ⟨gb209, 1, none⟩ (.int .i64 t207)).heap[gb205]? = some (.cells #[.int .i64 ((rd_T41 l0_0 x26_1).f0), .slice A204_1 ((rd_T41 l0_0 x26_1).f1).length c204_1, .slice A204_2 ((rd_T41 l0_0 x26_1).f2).length c204_2, .int .i64 ((rd_T41 l0_0 x26_1).f3.f0), .int .i64 ((rd_T41 l0_0 x26_1).f3.f1), .int .i64 ((rd_T41 l0_0 x26_1).f3.f2), .int .i64 ((rd_T41 l0_0 x26_1).f3.f3), .slice A204_7 ((rd_T41 l0_0 x26_1).f4).length c204_7, .string ((rd_T41 l0_0 x26_1).f5)] 41 (0, 0))) := ⟨by (with_reducible repeat (first | refine blk_drewN ?_ _ | refine blk_drew ?_ | refine blk_alloc ?_ _)); refine blk_far ?_ NB205_209.out _; (with_reducible repeat (first | refine blk_drewN ?_ _ | refine blk_drew ?_ | refine blk_alloc ?_ _)); refine blk_far ?_ NB205_209.out _; (with_reducible repeat (first | refine blk_drewN ?_ _ | refine blk_drew ?_ | refine blk_alloc ?_ _)); exact BK205.out⟩
                 have n3_ : Aside0 (((w22.setCell ⟨gb209, 0, none⟩ (.int .i64 t206)).setCell ⟨gb209, 1, none⟩ (.int .i64 t207)).heap[gb209]? = some (.cells #[.int .i64 t206, .int .i64 t207] 72 (0, 0))) := ⟨by (with_reducible repeat (first | refine blk_drewN ?_ _ | refine blk_drew ?_ | refine blk_alloc ?_ _)); refine blk_put (cs := #[.int .i64 t206, .int .i64 0]) ?_ 1 _ rfl; (with_reducible repeat (first | refine blk_drewN ?_ _ | refine blk_drew ?_ | refine blk_alloc ?_ _)); refine blk_put (cs := #[.int .i64 0, .int .i64 0]) ?_ 0 _ rfl; (with_reducible repeat (first | refine blk_drewN ?_ _ | refine blk_drew ?_ | refine blk_alloc ?_ _)); exact BK209.out⟩
                 have n4_ : Aside0 (Below w.heap.size w ((w22.setCell ⟨gb209, 0, none⟩ (.int .i64 t206)).setCell ⟨gb209, 1, none⟩ (.int .i64 t207))) := ⟨by exact qW HB.out⟩
                 (try clear HO_6)
                 (try clear BK198)
                 (try clear BK205)
                 (try clear BK209)
                 (try clear HB)
                 generalize ((w22.setCell ⟨gb209, 0, none⟩ (.int .i64 t206)).setCell ⟨gb209, 1, none⟩ (.int .i64 t207)) = w26 at n0_ n1_ n2_ n3_ n4_ ⊢
                 have HO_6 := n0_
                 have BK198 := n1_
                 have BK205 := n2_
                 have BK209 := n3_
                 have HB := n4_
                 clear n0_ n1_ n2_ n3_ n4_
                 replace HO_6 := Aside0.mk (Kd.R_drew HO_6.out)
                 replace BK198 := Aside0.mk (blk_drew BK198.out)
                 replace BK205 := Aside0.mk (blk_drew BK205.out)
                 replace BK209 := Aside0.mk (blk_drew BK209.out)
                 replace HB := Aside0.mk (below_drew1 HB.out)
                 obtain ⟨Ao28, co28, eo28⟩ := Kd.R_slice HO_6.out
                 (first | subst eo28 | (injection eo28 with f1_ f2_ f3_; have f4_ := f1_.symm; have f5_ := f3_.symm; clear f1_ f2_ f3_; subst f4_; subst f5_))
                 have p210 : 0 ≤ (x26_1 : Int) := of_decide_eq_true (by first | (with_reducible assumption) | assumption)
                 have q210 : x26_1 < (x6_1.length : Int) := of_decide_eq_true (by first | (with_reducible assumption) | assumption)
                 obtain ⟨ad210, e210, hx210_0, hx210_1⟩ := at_T72 (Kd.R_reads' HO_6.out).2.2 x26_1 p210 q210
                 cases e210
                 replace p210 := eq_true p210
                 replace q210 := eq_true q210
                 refine start_ (n := 12) (S := fun w' => w'.cell? ⟨gb209, 0, none⟩ = some (.int .i64 t206) ∧ w'.cell? ⟨gb209, 1, none⟩ = some (.int .i64 t207) ∧ w'.cell? (ad210.add ((x26_1).toNat * 2)) = some (.int .i64 ((rd_T72 x6_1 x26_1).f0)) ∧ w'.cell? ⟨(ad210.add ((x26_1).toNat * 2)).block, (ad210.add ((x26_1).toNat * 2)).off + 1, none⟩ = some (.int .i64 ((rd_T72 x6_1 x26_1).f1))) (ds := []) #[false, false, false, false, false, false, false, false, false, false, false, false] (by kernel_rfl) rfl rfl ⟨(blk_cell BK209.out 0).trans rfl, (blk_cell BK209.out 1).trans rfl, hx210_0, hx210_1⟩ (fun hHeld => ?_); refine with_tabW voice_sums.tab9 voice_sums.bits9 (fun HT_ HW_ => ?_)
                 generalize w26.drew = w27 at HO_6 BK198 BK205 BK209 HB hx210_0 hx210_1 hHeld ⊢
                 refine pure_ (i := 0) (N := some 37) (v := ?_) (a' := ?_) #[true, false, false, false, false, false, false, false, false, false, false, false] rfl rfl (any_of HT_.out (by kernel_rfl)) (fun _ _ _ h => h) (Or.inl ⟨by rfl, ?_⟩) ?_ ?_
                 rotate_left
                 · intro w'
                   go_simp
                   with_reducible rfl
                 rotate_left
                 · simp only [Act.put, qa_, qz_, qs_, i64_w, i32_w]
                   rfl
                 refine pure_ (i := 1) (N := some 38) (v := ?_) (a' := ?_) #[true, true, false, false, false, false, false, false, false, false, false, false] rfl rfl (any_of HT_.out (by kernel_rfl)) (fun _ _ _ h => h) (Or.inl ⟨by rfl, ?_⟩) ?_ ?_
                 rotate_left
                 · intro w'
                   go_simp
                   with_reducible rfl
                 rotate_left
                 · simp only [Act.put, qa_, qz_, qs_, i64_w, i32_w]
                   rfl
                 refine pure_ (i := 2) (N := some 39) (v := ?_) (a' := ?_) #[true, true, true, false, false, false, false, false, false, false, false, false] rfl rfl (any_of HT_.out (by kernel_rfl)) (fun _ _ _ h => h) (Or.inl ⟨by rfl, ?_⟩) ?_ ?_
                 rotate_left
                 · intro w'
                   go_simp
                   with_reducible rfl
                 rotate_left
                 · simp only [Act.put, qa_, qz_, qs_, i64_w, i32_w]
                   rfl
                 refine take_ (i := 3) (N := some 40) (v := ?_) (a' := ?_) #[true, true, true, true, false, false, false, false, false, false, false, false] rfl rfl (take_ofW HT_.out HW_.out (by kernel_rfl)) (fun _ _ _ h => h) (Or.inl ⟨by rfl, ?_⟩) hHeld ?_ ?_
                 rotate_left
                 · rintro w' ⟨s0, s1, s2, s3⟩
                   go_simp
                   with_reducible rfl
                 rotate_left
                 · simp only [Act.put, qa_, qz_, qs_, i64_w, i32_w]
                   rfl
                 refine take_ (i := 4) (N := some 41) (v := ?_) (a' := ?_) #[true, true, true, true, true, false, false, false, false, false, false, false] rfl rfl (take_ofW HT_.out HW_.out (by kernel_rfl)) (fun _ _ _ h => h) (Or.inl ⟨by rfl, ?_⟩) hHeld ?_ ?_
                 rotate_left
                 · rintro w' ⟨s0, s1, s2, s3⟩
                   go_simp
                   with_reducible rfl
                 rotate_left
                 · simp only [Act.put, qa_, qz_, qs_, i64_w, i32_w]
                   rfl
                 refine join_ (σ := Nat) 2 #[true, true, true, true, true, true, true, true, true, true, false, false] (fun s_ => [(42, .tuple #[.agg #[.int .i64 t211, .int .i64 t212], .int .i64 t213]), (11, .pointer (some ⟨s_, 0, none⟩)), (36, .tuple #[.agg #[.int .i64 t211, .int .i64 t212], .int .i64 t213]), (43, .agg #[.int .i64 t211, .int .i64 t212]), (44, .int .i64 t213)]) (fun s_ w' => (w'.cell? ⟨gb209, 0, none⟩ = some (.int .i64 t206) ∧ w'.cell? ⟨gb209, 1, none⟩ = some (.int .i64 t207) ∧ w'.cell? (ad210.add ((x26_1).toNat * 2)) = some (.int .i64 ((rd_T72 x6_1 x26_1).f0)) ∧ w'.cell? ⟨(ad210.add ((x26_1).toNat * 2)).block, (ad210.add ((x26_1).toNat * 2)).off + 1, none⟩ = some (.int .i64 ((rd_T72 x6_1 x26_1).f1))) ∧ (Kd.R k72 72 w' w.heap.size (fun k_ => k_ ≠ gb209 ∧ k_ ≠ s_) (.slice (some ad210) x6_1.length co28) x6_1) ∧ (w'.heap[gb198]? = some (.cells #[.slice (some ad204) l0_0.length c0_0] 32 (0, 0))) ∧ (w'.heap[gb205]? = some (.cells #[.int .i64 ((rd_T41 l0_0 x26_1).f0), .slice A204_1 ((rd_T41 l0_0 x26_1).f1).length c204_1, .slice A204_2 ((rd_T41 l0_0 x26_1).f2).length c204_2, .int .i64 ((rd_T41 l0_0 x26_1).f3.f0), .int .i64 ((rd_T41 l0_0 x26_1).f3.f1), .int .i64 ((rd_T41 l0_0 x26_1).f3.f2), .int .i64 ((rd_T41 l0_0 x26_1).f3.f3), .slice A204_7 ((rd_T41 l0_0 x26_1).f4).length c204_7, .string ((rd_T41 l0_0 x26_1).f5)] 41 (0, 0))) ∧ (w'.heap[gb209]? = some (.cells #[.int .i64 t206, .int .i64 t207] 72 (0, 0))) ∧ (w'.heap[s_]? = some (.cells #[.int .i64 0, .int .i64 0] 72 (0, 0))) ∧ (w.heap.size ≤ s_) ∧ (w.heap.size ≤ s_) ∧ (gb198 ≠ s_) ∧ (s_ ≠ gb198) ∧ (gb205 ≠ s_) ∧ (s_ ≠ gb205) ∧ (gb209 ≠ s_) ∧ (s_ ≠ gb209) ∧ (Below w.heap.size w w')) ?_ ?_
                 rotate_left
                 · intro hCont
                   refine two_ (i := 5) (j := 9) (Ni := some 42) (Nj := some 11) #[true, true, true, true, true, true, false, false, false, false, false, false] #[true, true, true, true, true, false, false, false, false, true, false, false] rfl rfl rfl rfl (two_of HT_.out (by kernel_rfl)) (by decide) (by decide) (fun K hK => ?_) (fun K hK => ?_)
                   · skip
                     refine goes_ Tryz.func61 (by kernel_rfl) rfl #[.agg #[.int .i64 ((rd_T72 x6_1 x26_1).f0), .int .i64 ((rd_T72 x6_1 x26_1).f1)], .agg #[.int .i64 t206, .int .i64 t207]] (by rfl) rfl rfl (by (try simp only [List.map_toArray, List.map_cons, List.map_nil]); first | done | rfl | (simp only [List.length_drop, List.length_take]; rfl)) ?_
                     with_reducible refine (ratio_Add.calls ((rd_T72 x6_1 x26_1).f0) ((rd_T72 x6_1 x26_1).f1) t206 t207 t211 t212 t213 _ A15.out).mono ?_
                     rintro e w29 ⟨rfl, hb⟩
                     have HS2_ := (hb.cell (World.block_lt_of_cell? _ _ (hHeld.2.2.1))).trans (hHeld.2.2.1)
                     have HS3_ := (hb.cell (World.block_lt_of_cell? _ _ (hHeld.2.2.2))).trans (hHeld.2.2.2)
                     refine ⟨_, rfl, ?_⟩
                     replace HO_6 := qE HO_6 hb
                     replace BK198 := Aside0.mk (blk_below (g := gb198) (o := .cells #[.slice (some ad204) l0_0.length c0_0] 32 (0, 0)) (qB BK198.out) hb)
                     replace BK205 := Aside0.mk (blk_below (g := gb205) (o := .cells #[.int .i64 ((rd_T41 l0_0 x26_1).f0), .slice A204_1 ((rd_T41 l0_0 x26_1).f1).length c204_1, .slice A204_2 ((rd_T41 l0_0 x26_1).f2).length c204_2, .int .i64 ((rd_T41 l0_0 x26_1).f3.f0), .int .i64 ((rd_T41 l0_0 x26_1).f3.f1), .int .i64 ((rd_T41 l0_0 x26_1).f3.f2), .int .i64 ((rd_T41 l0_0 x26_1).f3.f3), .slice A204_7 ((rd_T41 l0_0 x26_1).f4).length c204_7, .string ((rd_T41 l0_0 x26_1).f5)] 41 (0, 0)) (qB BK205.out) hb)
                     replace BK209 := qD BK209 hb
                     replace HB := Aside0.mk (below_step (qW HB.out) hb)
                     (try clear hb)
                     (try clear hb2)
                     (try clear hk)
                     (try clear hi)
                     refine hK.out _ _ ⟨(blk_cell BK209.out 0).trans rfl, (blk_cell BK209.out 1).trans rfl, HS2_, HS3_⟩ (fun hHeld => ?_)
                     clear hK K
                     refine norm_ (a' := ?_) ?_ ?_
                     rotate_left
                     · show Act.put _ (some 42) _ = _
                       simp only [Act.put, qa_, qz_, qs_, i64_w, i32_w]
                       rfl
                     refine pure_ (i := 6) (N := some 36) (v := ?_) (a' := ?_) #[true, true, true, true, true, true, true, false, false, false, false, false] rfl rfl (any_of HT_.out (by kernel_rfl)) (fun _ _ _ h => h) (Or.inl ⟨by rfl, ?_⟩) ?_ ?_
                     rotate_left
                     · intro w'
                       go_simp
                       with_reducible rfl
                     rotate_left
                     · simp only [Act.put, qa_, qz_, qs_, i64_w, i32_w]
                       rfl
                     refine pure_ (i := 7) (N := some 43) (v := ?_) (a' := ?_) #[true, true, true, true, true, true, true, true, false, false, false, false] rfl rfl (any_of HT_.out (by kernel_rfl)) (fun _ _ _ h => h) (Or.inl ⟨by rfl, ?_⟩) ?_ ?_
                     rotate_left
                     · intro w'
                       go_simp
                       with_reducible rfl
                     rotate_left
                     · simp only [Act.put, qa_, qz_, qs_, i64_w, i32_w]
                       rfl
                     refine pure_ (i := 8) (N := some 44) (v := ?_) (a' := ?_) #[true, true, true, true, true, true, true, true, true, false, false, false] rfl rfl (any_of HT_.out (by kernel_rfl)) (fun _ _ _ h => h) (Or.inl ⟨by rfl, ?_⟩) ?_ ?_
                     rotate_left
                     · intro w'
                       go_simp
                       with_reducible rfl
                     rotate_left
                     · simp only [Act.put, qa_, qz_, qs_, i64_w, i32_w]
                       rfl
                     refine one_ (i := 9) (N := some 11) #[true, true, true, true, true, true, true, true, true, true, false, false] rfl rfl (one_of HT_.out (by kernel_rfl)) (by decide) (fun K hK => ?_)
                     refine box_step ?hg (N := 11) ?hd (cs := #[.int .i64 0, .int .i64 0]) (t := 72) ?hr ?_; (case hd => rfl); (case hg => rfl); (case hr => first | (go_simp; done) | (go_simp; rfl))
                     intro gb214 hg w30 hbox hb
                     have HS2_ := (hb.cell (World.block_lt_of_cell? _ _ (hHeld.2.2.1))).trans (hHeld.2.2.1)
                     have HS3_ := (hb.cell (World.block_lt_of_cell? _ _ (hHeld.2.2.2))).trans (hHeld.2.2.2)
                     replace HO_6 := Aside0.mk (Kd.R_below (Kd.R_elderB (qR HO_6.out) gb214 (Nat.le_of_eq hg.symm)) hb)
                     have BK214 := Aside0.mk (hbox)
                     have GW214 := qT HB hg
                     have GE214 := qS HB hg
                     replace HB := Aside0.mk (below_step (qW HB.out) hb)
                     have NB198_214 := Aside0.mk ((by rw [hg]; exact Nat.ne_of_lt (blk_lt (g := gb198) (o := .cells #[.slice (some ad204) l0_0.length c0_0] 32 (0, 0)) (qB BK198.out)) : gb198 ≠ gb214))
                     have NB214_198 := Aside0.mk ((by rw [hg]; exact Nat.ne_of_gt (blk_lt (g := gb198) (o := .cells #[.slice (some ad204) l0_0.length c0_0] 32 (0, 0)) (qB BK198.out)) : gb214 ≠ gb198))
                     replace BK198 := Aside0.mk (blk_below (g := gb198) (o := .cells #[.slice (some ad204) l0_0.length c0_0] 32 (0, 0)) (qB BK198.out) hb)
                     have NB205_214 := Aside0.mk ((by rw [hg]; exact Nat.ne_of_lt (blk_lt (g := gb205) (o := .cells #[.int .i64 ((rd_T41 l0_0 x26_1).f0), .slice A204_1 ((rd_T41 l0_0 x26_1).f1).length c204_1, .slice A204_2 ((rd_T41 l0_0 x26_1).f2).length c204_2, .int .i64 ((rd_T41 l0_0 x26_1).f3.f0), .int .i64 ((rd_T41 l0_0 x26_1).f3.f1), .int .i64 ((rd_T41 l0_0 x26_1).f3.f2), .int .i64 ((rd_T41 l0_0 x26_1).f3.f3), .slice A204_7 ((rd_T41 l0_0 x26_1).f4).length c204_7, .string ((rd_T41 l0_0 x26_1).f5)] 41 (0, 0)) (qB BK205.out)) : gb205 ≠ gb214))
                     have NB214_205 := Aside0.mk ((by rw [hg]; exact Nat.ne_of_gt (blk_lt (g := gb205) (o := .cells #[.int .i64 ((rd_T41 l0_0 x26_1).f0), .slice A204_1 ((rd_T41 l0_0 x26_1).f1).length c204_1, .slice A204_2 ((rd_T41 l0_0 x26_1).f2).length c204_2, .int .i64 ((rd_T41 l0_0 x26_1).f3.f0), .int .i64 ((rd_T41 l0_0 x26_1).f3.f1), .int .i64 ((rd_T41 l0_0 x26_1).f3.f2), .int .i64 ((rd_T41 l0_0 x26_1).f3.f3), .slice A204_7 ((rd_T41 l0_0 x26_1).f4).length c204_7, .string ((rd_T41 l0_0 x26_1).f5)] 41 (0, 0)) (qB BK205.out)) : gb214 ≠ gb205))
                     replace BK205 := Aside0.mk (blk_below (g := gb205) (o := .cells #[.int .i64 ((rd_T41 l0_0 x26_1).f0), .slice A204_1 ((rd_T41 l0_0 x26_1).f1).length c204_1, .slice A204_2 ((rd_T41 l0_0 x26_1).f2).length c204_2, .int .i64 ((rd_T41 l0_0 x26_1).f3.f0), .int .i64 ((rd_T41 l0_0 x26_1).f3.f1), .int .i64 ((rd_T41 l0_0 x26_1).f3.f2), .int .i64 ((rd_T41 l0_0 x26_1).f3.f3), .slice A204_7 ((rd_T41 l0_0 x26_1).f4).length c204_7, .string ((rd_T41 l0_0 x26_1).f5)] 41 (0, 0)) (qB BK205.out) hb)
                     have NB209_214 := qL BK209 hg
                     have NB214_209 := qM BK209 hg
                     replace BK209 := qD BK209 hb
                     clear hb hbox hg
                     refine hK.out _ _ ⟨(blk_cell BK209.out 0).trans rfl, (blk_cell BK209.out 1).trans rfl, HS2_, HS3_⟩ (fun hHeld => ?_)
                     clear hK K
                     refine norm_ (a' := ?_) ?_ ?_
                     rotate_left
                     · show Act.put _ (some 11) _ = _
                       simp only [Act.put, qa_, qz_, qs_, i64_w, i32_w]
                       rfl
                     exact norm_ (by simp only [putAll, Act.put, qa_, qz_, qs_]) (hCont (gb214) _ ⟨hHeld, (qR HO_6.out), (qB BK198.out), (qB BK205.out), (qB BK209.out), (qB BK214.out), GW214.out, (GE214.elim id), NB198_214.out, NB214_198.out, NB205_214.out, NB214_205.out, NB209_214.out, NB214_209.out, (qW HB.out)⟩)
                   · skip
                     refine box_step ?hg (N := 11) ?hd (cs := #[.int .i64 0, .int .i64 0]) (t := 72) ?hr ?_; (case hd => rfl); (case hg => rfl); (case hr => first | (go_simp; done) | (go_simp; rfl))
                     intro gb214 hg w29 hbox hb
                     have HS2_ := (hb.cell (World.block_lt_of_cell? _ _ (hHeld.2.2.1))).trans (hHeld.2.2.1)
                     have HS3_ := (hb.cell (World.block_lt_of_cell? _ _ (hHeld.2.2.2))).trans (hHeld.2.2.2)
                     replace HO_6 := Aside0.mk (Kd.R_below (Kd.R_elderB (qR HO_6.out) gb214 (Nat.le_of_eq hg.symm)) hb)
                     have BK214 := Aside0.mk (hbox)
                     have GW214 := qT HB hg
                     have GE214 := qS HB hg
                     replace HB := Aside0.mk (below_step (qW HB.out) hb)
                     have NB198_214 := Aside0.mk ((by rw [hg]; exact Nat.ne_of_lt (blk_lt (g := gb198) (o := .cells #[.slice (some ad204) l0_0.length c0_0] 32 (0, 0)) (qB BK198.out)) : gb198 ≠ gb214))
                     have NB214_198 := Aside0.mk ((by rw [hg]; exact Nat.ne_of_gt (blk_lt (g := gb198) (o := .cells #[.slice (some ad204) l0_0.length c0_0] 32 (0, 0)) (qB BK198.out)) : gb214 ≠ gb198))
                     replace BK198 := Aside0.mk (blk_below (g := gb198) (o := .cells #[.slice (some ad204) l0_0.length c0_0] 32 (0, 0)) (qB BK198.out) hb)
                     have NB205_214 := Aside0.mk ((by rw [hg]; exact Nat.ne_of_lt (blk_lt (g := gb205) (o := .cells #[.int .i64 ((rd_T41 l0_0 x26_1).f0), .slice A204_1 ((rd_T41 l0_0 x26_1).f1).length c204_1, .slice A204_2 ((rd_T41 l0_0 x26_1).f2).length c204_2, .int .i64 ((rd_T41 l0_0 x26_1).f3.f0), .int .i64 ((rd_T41 l0_0 x26_1).f3.f1), .int .i64 ((rd_T41 l0_0 x26_1).f3.f2), .int .i64 ((rd_T41 l0_0 x26_1).f3.f3), .slice A204_7 ((rd_T41 l0_0 x26_1).f4).length c204_7, .string ((rd_T41 l0_0 x26_1).f5)] 41 (0, 0)) (qB BK205.out)) : gb205 ≠ gb214))
                     have NB214_205 := Aside0.mk ((by rw [hg]; exact Nat.ne_of_gt (blk_lt (g := gb205) (o := .cells #[.int .i64 ((rd_T41 l0_0 x26_1).f0), .slice A204_1 ((rd_T41 l0_0 x26_1).f1).length c204_1, .slice A204_2 ((rd_T41 l0_0 x26_1).f2).length c204_2, .int .i64 ((rd_T41 l0_0 x26_1).f3.f0), .int .i64 ((rd_T41 l0_0 x26_1).f3.f1), .int .i64 ((rd_T41 l0_0 x26_1).f3.f2), .int .i64 ((rd_T41 l0_0 x26_1).f3.f3), .slice A204_7 ((rd_T41 l0_0 x26_1).f4).length c204_7, .string ((rd_T41 l0_0 x26_1).f5)] 41 (0, 0)) (qB BK205.out)) : gb214 ≠ gb205))
                     replace BK205 := Aside0.mk (blk_below (g := gb205) (o := .cells #[.int .i64 ((rd_T41 l0_0 x26_1).f0), .slice A204_1 ((rd_T41 l0_0 x26_1).f1).length c204_1, .slice A204_2 ((rd_T41 l0_0 x26_1).f2).length c204_2, .int .i64 ((rd_T41 l0_0 x26_1).f3.f0), .int .i64 ((rd_T41 l0_0 x26_1).f3.f1), .int .i64 ((rd_T41 l0_0 x26_1).f3.f2), .int .i64 ((rd_T41 l0_0 x26_1).f3.f3), .slice A204_7 ((rd_T41 l0_0 x26_1).f4).length c204_7, .string ((rd_T41 l0_0 x26_1).f5)] 41 (0, 0)) (qB BK205.out) hb)
                     have NB209_214 := qL BK209 hg
                     have NB214_209 := qM BK209 hg
                     replace BK209 := qD BK209 hb
                     clear hb hbox hg
                     refine hK.out _ _ ⟨(blk_cell BK209.out 0).trans rfl, (blk_cell BK209.out 1).trans rfl, HS2_, HS3_⟩ (fun hHeld => ?_)
                     clear hK K
                     refine norm_ (a' := ?_) ?_ ?_
                     rotate_left
                     · show Act.put _ (some 11) _ = _
                       simp only [Act.put, qa_, qz_, qs_, i64_w, i32_w]
                       rfl
                     refine one_ (i := 5) (N := some 42) #[true, true, true, true, true, true, false, false, false, true, false, false] rfl rfl (one_of HT_.out (by kernel_rfl)) (by decide) (fun K hK => ?_)
                     refine goes_ Tryz.func61 (by kernel_rfl) rfl #[.agg #[.int .i64 ((rd_T72 x6_1 x26_1).f0), .int .i64 ((rd_T72 x6_1 x26_1).f1)], .agg #[.int .i64 t206, .int .i64 t207]] (by rfl) rfl rfl (by (try simp only [List.map_toArray, List.map_cons, List.map_nil]); first | done | rfl | (simp only [List.length_drop, List.length_take]; rfl)) ?_
                     with_reducible refine (ratio_Add.calls ((rd_T72 x6_1 x26_1).f0) ((rd_T72 x6_1 x26_1).f1) t206 t207 t211 t212 t213 _ A15.out).mono ?_
                     rintro e w30 ⟨rfl, hb⟩
                     have HS2_ := (hb.cell (World.block_lt_of_cell? _ _ (hHeld.2.2.1))).trans (hHeld.2.2.1)
                     have HS3_ := (hb.cell (World.block_lt_of_cell? _ _ (hHeld.2.2.2))).trans (hHeld.2.2.2)
                     refine ⟨_, rfl, ?_⟩
                     replace HO_6 := qE HO_6 hb
                     replace BK198 := Aside0.mk (blk_below (g := gb198) (o := .cells #[.slice (some ad204) l0_0.length c0_0] 32 (0, 0)) (qB BK198.out) hb)
                     replace BK205 := Aside0.mk (blk_below (g := gb205) (o := .cells #[.int .i64 ((rd_T41 l0_0 x26_1).f0), .slice A204_1 ((rd_T41 l0_0 x26_1).f1).length c204_1, .slice A204_2 ((rd_T41 l0_0 x26_1).f2).length c204_2, .int .i64 ((rd_T41 l0_0 x26_1).f3.f0), .int .i64 ((rd_T41 l0_0 x26_1).f3.f1), .int .i64 ((rd_T41 l0_0 x26_1).f3.f2), .int .i64 ((rd_T41 l0_0 x26_1).f3.f3), .slice A204_7 ((rd_T41 l0_0 x26_1).f4).length c204_7, .string ((rd_T41 l0_0 x26_1).f5)] 41 (0, 0)) (qB BK205.out) hb)
                     replace BK209 := qD BK209 hb
                     replace BK214 := qD BK214 hb
                     replace HB := Aside0.mk (below_step (qW HB.out) hb)
                     (try clear hb)
                     (try clear hb2)
                     (try clear hk)
                     (try clear hi)
                     refine hK.out _ _ ⟨(blk_cell BK209.out 0).trans rfl, (blk_cell BK209.out 1).trans rfl, HS2_, HS3_⟩ (fun hHeld => ?_)
                     clear hK K
                     refine norm_ (a' := ?_) ?_ ?_
                     rotate_left
                     · show Act.put _ (some 42) _ = _
                       simp only [Act.put, qa_, qz_, qs_, i64_w, i32_w]
                       rfl
                     refine pure_ (i := 6) (N := some 36) (v := ?_) (a' := ?_) #[true, true, true, true, true, true, true, false, false, true, false, false] rfl rfl (any_of HT_.out (by kernel_rfl)) (fun _ _ _ h => h) (Or.inl ⟨by rfl, ?_⟩) ?_ ?_
                     rotate_left
                     · intro w'
                       go_simp
                       with_reducible rfl
                     rotate_left
                     · simp only [Act.put, qa_, qz_, qs_, i64_w, i32_w]
                       rfl
                     refine pure_ (i := 7) (N := some 43) (v := ?_) (a' := ?_) #[true, true, true, true, true, true, true, true, false, true, false, false] rfl rfl (any_of HT_.out (by kernel_rfl)) (fun _ _ _ h => h) (Or.inl ⟨by rfl, ?_⟩) ?_ ?_
                     rotate_left
                     · intro w'
                       go_simp
                       with_reducible rfl
                     rotate_left
                     · simp only [Act.put, qa_, qz_, qs_, i64_w, i32_w]
                       rfl
                     refine pure_ (i := 8) (N := some 44) (v := ?_) (a' := ?_) #[true, true, true, true, true, true, true, true, true, true, false, false] rfl rfl (any_of HT_.out (by kernel_rfl)) (fun _ _ _ h => h) (Or.inl ⟨by rfl, ?_⟩) ?_ ?_
                     rotate_left
                     · intro w'
                       go_simp
                       with_reducible rfl
                     rotate_left
                     · simp only [Act.put, qa_, qz_, qs_, i64_w, i32_w]
                       rfl
                     exact norm_ (by simp only [putAll, Act.put, qa_, qz_, qs_]) (hCont (gb214) _ ⟨hHeld, (qR HO_6.out), (qB BK198.out), (qB BK205.out), (qB BK209.out), (qB BK214.out), GW214.out, (GE214.elim id), NB198_214.out, NB214_198.out, NB205_214.out, NB214_205.out, NB209_214.out, NB214_209.out, (qW HB.out)⟩)
                 rintro gb214 w31 ⟨hS_, h0_, h1_, h2_, h3_, h4_, h5_, h6_, h7_, h8_, h9_, h10_, h11_, h12_, h13_⟩
                 replace HO_6 : Aside0 (Kd.R k72 72 w31 w.heap.size (fun k_ => k_ ≠ gb209 ∧ k_ ≠ gb214) (.slice (some ad210) x6_1.length co28) x6_1) := ⟨h0_⟩
                 replace BK198 : Aside0 (w31.heap[gb198]? = some (.cells #[.slice (some ad204) l0_0.length c0_0] 32 (0, 0))) := ⟨h1_⟩
                 replace BK205 : Aside0 (w31.heap[gb205]? = some (.cells #[.int .i64 ((rd_T41 l0_0 x26_1).f0), .slice A204_1 ((rd_T41 l0_0 x26_1).f1).length c204_1, .slice A204_2 ((rd_T41 l0_0 x26_1).f2).length c204_2, .int .i64 ((rd_T41 l0_0 x26_1).f3.f0), .int .i64 ((rd_T41 l0_0 x26_1).f3.f1), .int .i64 ((rd_T41 l0_0 x26_1).f3.f2), .int .i64 ((rd_T41 l0_0 x26_1).f3.f3), .slice A204_7 ((rd_T41 l0_0 x26_1).f4).length c204_7, .string ((rd_T41 l0_0 x26_1).f5)] 41 (0, 0))) := ⟨h2_⟩
                 replace BK209 : Aside0 (w31.heap[gb209]? = some (.cells #[.int .i64 t206, .int .i64 t207] 72 (0, 0))) := ⟨h3_⟩
                 have BK214 : Aside0 (w31.heap[gb214]? = some (.cells #[.int .i64 0, .int .i64 0] 72 (0, 0))) := ⟨h4_⟩
                 have GW214 : Aside0 (w.heap.size ≤ gb214) := ⟨h5_⟩
                 have GE214 : Nonempty (w.heap.size ≤ gb214) := ⟨h6_⟩
                 have NB198_214 : Aside0 (gb198 ≠ gb214) := ⟨h7_⟩
                 have NB214_198 : Aside0 (gb214 ≠ gb198) := ⟨h8_⟩
                 have NB205_214 : Aside0 (gb205 ≠ gb214) := ⟨h9_⟩
                 have NB214_205 : Aside0 (gb214 ≠ gb205) := ⟨h10_⟩
                 have NB209_214 : Aside0 (gb209 ≠ gb214) := ⟨h11_⟩
                 have NB214_209 : Aside0 (gb214 ≠ gb209) := ⟨h12_⟩
                 replace HB : Aside0 (Below w.heap.size w w31) := ⟨h13_⟩
                 clear h0_ h1_ h2_ h3_ h4_ h5_ h6_ h7_ h8_ h9_ h10_ h11_ h12_ h13_
                 have hHeld : w31.cell? ⟨gb209, 0, none⟩ = some (.int .i64 t206) ∧ w31.cell? ⟨gb209, 1, none⟩ = some (.int .i64 t207) ∧ w31.cell? (ad210.add ((x26_1).toNat * 2)) = some (.int .i64 ((rd_T72 x6_1 x26_1).f0)) ∧ w31.cell? ⟨(ad210.add ((x26_1).toNat * 2)).block, (ad210.add ((x26_1).toNat * 2)).off + 1, none⟩ = some (.int .i64 ((rd_T72 x6_1 x26_1).f1)) := hS_
                 refine norm_ (a' := ?_) ?_ ?_
                 rotate_left
                 · simp only [putAll, Act.put, qa_, qz_, qs_]
                   rfl
                 refine one_ (i := 10) (N := none) #[true, true, true, true, true, true, true, true, true, true, true, false] rfl rfl (one_of HT_.out (by kernel_rfl)) (by decide) (fun K hK => ?_)
                 have hs32 : w31.cell? ⟨gb214, 0, none⟩ = some (.int .i64 0) := (blk_cell BK214.out 0).trans rfl
                 have hfs32 := blk_frozen BK214.out 0
                 have hns32_0 := NB198_214.out
                 have hns32_1 := NB205_214.out
                 have hns32_2 := NB209_214.out
                 have hms32_0 := NB214_198.out
                 have hms32_1 := NB214_205.out
                 have hms32_2 := NB214_209.out
                 have hs33 : w31.cell? ⟨gb214, 1, none⟩ = some (.int .i64 0) := (blk_cell BK214.out 1).trans rfl
                 have hfs33 := blk_frozen BK214.out 1
                 have hns33_0 := NB198_214.out
                 have hns33_1 := NB205_214.out
                 have hns33_2 := NB209_214.out
                 have hms33_0 := NB214_198.out
                 have hms33_1 := NB214_205.out
                 have hms33_2 := NB214_209.out
                 refine skip_ (w1 := ?_) (by rfl) rfl ?_ ?_
                 rotate_left
                 · go_simp
                   rfl
                 refine hK.out _ _ ⟨((cell_far (p := ⟨gb214, _, none⟩) NB209_214.out _).trans (((cell_far (p := ⟨gb214, _, none⟩) NB209_214.out _).trans (hHeld.1)))), ((cell_far (p := ⟨gb214, _, none⟩) NB209_214.out _).trans (((cell_far (p := ⟨gb214, _, none⟩) NB209_214.out _).trans (hHeld.2.1)))), ((cell_far (p := ⟨gb214, _, none⟩) (by first | exact Kd.own_blk (Kd.R_away HO_6.out (fun _ hk => hk.2)) | (rw [add_block]; exact Kd.own_blk (Kd.R_away HO_6.out (fun _ hk => hk.2))) | (show (Addr.add _ _).block ≠ _; rw [add_block]; exact Kd.own_blk (Kd.R_away HO_6.out (fun _ hk => hk.2))) | (dsimp only; exact Kd.own_blk (Kd.R_away HO_6.out (fun _ hk => hk.2)))) _).trans (((cell_far (p := ⟨gb214, _, none⟩) (by first | exact Kd.own_blk (Kd.R_away HO_6.out (fun _ hk => hk.2)) | (rw [add_block]; exact Kd.own_blk (Kd.R_away HO_6.out (fun _ hk => hk.2))) | (show (Addr.add _ _).block ≠ _; rw [add_block]; exact Kd.own_blk (Kd.R_away HO_6.out (fun _ hk => hk.2))) | (dsimp only; exact Kd.own_blk (Kd.R_away HO_6.out (fun _ hk => hk.2)))) _).trans (hHeld.2.2.1)))), ((cell_far (p := ⟨gb214, _, none⟩) (by first | exact Kd.own_blk (Kd.R_away HO_6.out (fun _ hk => hk.2)) | (rw [add_block]; exact Kd.own_blk (Kd.R_away HO_6.out (fun _ hk => hk.2))) | (show (Addr.add _ _).block ≠ _; rw [add_block]; exact Kd.own_blk (Kd.R_away HO_6.out (fun _ hk => hk.2))) | (dsimp only; exact Kd.own_blk (Kd.R_away HO_6.out (fun _ hk => hk.2)))) _).trans (((cell_far (p := ⟨gb214, _, none⟩) (by first | exact Kd.own_blk (Kd.R_away HO_6.out (fun _ hk => hk.2)) | (rw [add_block]; exact Kd.own_blk (Kd.R_away HO_6.out (fun _ hk => hk.2))) | (show (Addr.add _ _).block ≠ _; rw [add_block]; exact Kd.own_blk (Kd.R_away HO_6.out (fun _ hk => hk.2))) | (dsimp only; exact Kd.own_blk (Kd.R_away HO_6.out (fun _ hk => hk.2)))) _).trans (hHeld.2.2.2))))⟩ (fun hHeld => ?_)
                 clear hK K
                 refine pure_ (i := 11) (N := some 12) (v := ?_) (a' := ?_) #[true, true, true, true, true, true, true, true, true, true, true, true] rfl rfl (any_of HT_.out (by kernel_rfl)) (fun _ _ _ h => h) (Or.inl ⟨by rfl, ?_⟩) ?_ ?_
                 rotate_left
                 · intro w'
                   go_simp
                   with_reducible rfl
                 rotate_left
                 · simp only [Act.put, qa_, qz_, qs_, i64_w, i32_w]
                   rfl
                 refine done_ (done_of HT_.out (by kernel_rfl)) ?_
                 have hnb34 := NB214_198.out
                 have hnc34 := NB198_214.out
                 have hnb35 := NB214_205.out
                 have hnc35 := NB205_214.out
                 have hnb36 := NB214_209.out
                 have hnc36 := NB209_214.out
                 have hcz37_0 := qC BK214 0 rfl
                 have hcz37_1 := qC BK214 1 rfl
                 have hfz37_0 := blk_frozen BK214.out 0
                 have hfz37_1 := blk_frozen BK214.out 1
                 try go_wp2_with (first | ((with_reducible refine gate_builtin (b := .append) (xs := #[.tmp 48, .tmp 50]) rfl ?_); at_builtin; refine Kd.R_append k72 (w0 := w) w.heap.size rfl (.tmp 48) (.tmp 50) 50 72 (.agg #[(.int .i64 0), (.int .i64 0)]) 16 rfl Tryz.underlying50 info72 rfl (by decide) (by omega) (.slice (some ad210) x6_1.length co28) x6_1 (⟨t211, t212⟩ : S72) [.int .i64 t211, .int .i64 t212] (fun k_ => k_ ≠ gb209 ∧ k_ ≠ gb214) (fun _ => False) rfl (by first | (go_simp; done) | (go_simp; rfl)) ?aP (fun _ hk => hk.elim) ?aF ?aO ?aB ?aS ?aL ?_; (case aP => exact k72_mkM _ _ _ (⟨t211, t212⟩ : S72)); (case aB => exact (qW HB.out)); (case aF => exact (fun k_ hk => ⟨Kd.freshB (g := gb209) (o := .cells #[.int .i64 t206, .int .i64 t207] 72 (0, 0)) (by (with_reducible repeat (first | refine blk_drewN ?_ _ | refine blk_drew ?_ | refine blk_alloc ?_ _)); refine blk_far ?_ NB209_214.out _; (with_reducible repeat (first | refine blk_drewN ?_ _ | refine blk_drew ?_ | refine blk_alloc ?_ _)); refine blk_far ?_ NB209_214.out _; (with_reducible repeat (first | refine blk_drewN ?_ _ | refine blk_drew ?_ | refine blk_alloc ?_ _)); exact BK209.out) k_ hk, Kd.freshB (g := gb214) (o := .cells #[.int .i64 t211, .int .i64 t212] 72 (0, 0)) (by (with_reducible repeat (first | refine blk_drewN ?_ _ | refine blk_drew ?_ | refine blk_alloc ?_ _)); refine blk_put (cs := #[.int .i64 t211, .int .i64 0]) ?_ 1 _ rfl; (with_reducible repeat (first | refine blk_drewN ?_ _ | refine blk_drew ?_ | refine blk_alloc ?_ _)); refine blk_put (cs := #[.int .i64 0, .int .i64 0]) ?_ 0 _ rfl; (with_reducible repeat (first | refine blk_drewN ?_ _ | refine blk_drew ?_ | refine blk_alloc ?_ _)); exact BK214.out) k_ hk⟩)); (case aO => exact (qR (Kd.R_mono (Kd.R_far (p := ⟨gb214, 1, none⟩) (Kd.R_far (p := ⟨gb214, 0, none⟩) (Kd.R_mono HO_6.out (fun k_ hk => (⟨hk, hk.2⟩ : _ ∧ k_ ≠ gb214))) (fun _ hk => hk.2) (.int .i64 t211)) (fun _ hk => hk.2) (.int .i64 t212)) (fun _ hk => ⟨hk.1.1, hk.1.2⟩)))); (case aS => exact (below_size (qW HB.out))); (case aL => have := LMc17.out; omega); intro v216 w38 ho hb hg hat; rw [← Ny215.out] at ho; replace BK198 := Aside0.mk (blk_grown (g := gb198) (o := .cells #[.slice (some ad204) l0_0.length c0_0] 32 (0, 0)) (by (with_reducible repeat (first | refine blk_drewN ?_ _ | refine blk_drew ?_ | refine blk_alloc ?_ _)); refine blk_far ?_ NB198_214.out _; (with_reducible repeat (first | refine blk_drewN ?_ _ | refine blk_drew ?_ | refine blk_alloc ?_ _)); refine blk_far ?_ NB198_214.out _; (with_reducible repeat (first | refine blk_drewN ?_ _ | refine blk_drew ?_ | refine blk_alloc ?_ _)); exact BK198.out) hg (Kd.R_ne HO_6.out BK198.out (by decide))); replace BK205 := Aside0.mk (blk_grown (g := gb205) (o := .cells #[.int .i64 ((rd_T41 l0_0 x26_1).f0), .slice A204_1 ((rd_T41 l0_0 x26_1).f1).length c204_1, .slice A204_2 ((rd_T41 l0_0 x26_1).f2).length c204_2, .int .i64 ((rd_T41 l0_0 x26_1).f3.f0), .int .i64 ((rd_T41 l0_0 x26_1).f3.f1), .int .i64 ((rd_T41 l0_0 x26_1).f3.f2), .int .i64 ((rd_T41 l0_0 x26_1).f3.f3), .slice A204_7 ((rd_T41 l0_0 x26_1).f4).length c204_7, .string ((rd_T41 l0_0 x26_1).f5)] 41 (0, 0)) (by (with_reducible repeat (first | refine blk_drewN ?_ _ | refine blk_drew ?_ | refine blk_alloc ?_ _)); refine blk_far ?_ NB205_214.out _; (with_reducible repeat (first | refine blk_drewN ?_ _ | refine blk_drew ?_ | refine blk_alloc ?_ _)); refine blk_far ?_ NB205_214.out _; (with_reducible repeat (first | refine blk_drewN ?_ _ | refine blk_drew ?_ | refine blk_alloc ?_ _)); exact BK205.out) hg (Kd.R_ne HO_6.out BK205.out (by decide))); replace BK209 := Aside0.mk (blk_grown (g := gb209) (o := .cells #[.int .i64 t206, .int .i64 t207] 72 (0, 0)) (by (with_reducible repeat (first | refine blk_drewN ?_ _ | refine blk_drew ?_ | refine blk_alloc ?_ _)); refine blk_far ?_ NB209_214.out _; (with_reducible repeat (first | refine blk_drewN ?_ _ | refine blk_drew ?_ | refine blk_alloc ?_ _)); refine blk_far ?_ NB209_214.out _; (with_reducible repeat (first | refine blk_drewN ?_ _ | refine blk_drew ?_ | refine blk_alloc ?_ _)); exact BK209.out) hg (Kd.R_away HO_6.out (fun _ hk => hk.1))); replace BK214 := Aside0.mk (blk_grown (g := gb214) (o := .cells #[.int .i64 t211, .int .i64 t212] 72 (0, 0)) (by (with_reducible repeat (first | refine blk_drewN ?_ _ | refine blk_drew ?_ | refine blk_alloc ?_ _)); refine blk_put (cs := #[.int .i64 t211, .int .i64 0]) ?_ 1 _ rfl; (with_reducible repeat (first | refine blk_drewN ?_ _ | refine blk_drew ?_ | refine blk_alloc ?_ _)); refine blk_put (cs := #[.int .i64 0, .int .i64 0]) ?_ 0 _ rfl; (with_reducible repeat (first | refine blk_drewN ?_ _ | refine blk_drew ?_ | refine blk_alloc ?_ _)); exact BK214.out) hg (Kd.R_away HO_6.out (fun _ hk => hk.2))); replace HB := Aside0.mk (hb); have HO217 := Aside0.mk (ho); clear HO_6; clear ho hb hg hat))
                 go_roundg k1
                 case measure => have := HK1.out; omega
                 case rel => exact ⟨(y215), (wrap64 (x26_1 + 1)), (by first | rfl | (simp; done) | (simp [*]; done)), H', ⟨by have := HK1.out; omega⟩, ⟨by (with_reducible repeat (first | apply Kd.R_alloc | apply Kd.R_drewN | apply Kd.R_drew)); exact Kd.R_mono HO217.out (fun _ hk => trivial)⟩, ⟨by (with_reducible repeat (first | refine blk_drewN ?_ _ | refine blk_drew ?_ | refine blk_alloc ?_ _)); exact BK198.out⟩, ⟨by exact qW HB.out⟩⟩
               · rw [if_neg c17] at H
                 exact absurd H (by simp)
             · rw [if_neg c16] at H
               have c16b0 : (t213 == 0) = false := beq_eq_false_iff_ne.mpr c16
               have c16b1 : (t213 != 0) = true := bne_iff_ne.mpr c16
               simp only [Option.some.injEq, Prod.mk.injEq] at H
               obtain ⟨rfl, rfl⟩ := H
               have p204 : 0 ≤ (x26_1 : Int) := of_decide_eq_true (by first | (with_reducible assumption) | assumption)
               have q204 : x26_1 < (l0_0.length : Int) := of_decide_eq_true (by first | (with_reducible assumption) | assumption)
               obtain ⟨ad204, A204_1, c204_1, A204_2, c204_2, A204_7, c204_7, e204, hx204_0, hx204_1, hx204_2, hx204_3, hx204_4, hx204_5, hx204_6, hx204_7, hx204_8, hl204_1, hi204_1, hl204_2, hi204_2, hl204_7, hi204_7⟩ := at_T41 HR0_0.out x26_1 p204 q204
               cases e204
               replace hx204_0 := (HB.out.cell (World.block_lt_of_cell? w _ hx204_0)).trans hx204_0
               replace hx204_1 := (HB.out.cell (World.block_lt_of_cell? w _ hx204_1)).trans hx204_1
               replace hx204_2 := (HB.out.cell (World.block_lt_of_cell? w _ hx204_2)).trans hx204_2
               replace hx204_3 := (HB.out.cell (World.block_lt_of_cell? w _ hx204_3)).trans hx204_3
               replace hx204_4 := (HB.out.cell (World.block_lt_of_cell? w _ hx204_4)).trans hx204_4
               replace hx204_5 := (HB.out.cell (World.block_lt_of_cell? w _ hx204_5)).trans hx204_5
               replace hx204_6 := (HB.out.cell (World.block_lt_of_cell? w _ hx204_6)).trans hx204_6
               replace hx204_7 := (HB.out.cell (World.block_lt_of_cell? w _ hx204_7)).trans hx204_7
               replace hx204_8 := (HB.out.cell (World.block_lt_of_cell? w _ hx204_8)).trans hx204_8
               have HR204_1 := Aside0.mk hi204_1
               have HC204_1 := Aside0.mk hl204_1
               clear hi204_1 hl204_1
               have HR204_2 := Aside0.mk hi204_2
               have HC204_2 := Aside0.mk hl204_2
               clear hi204_2 hl204_2
               have HR204_7 := Aside0.mk hi204_7
               have HC204_7 := Aside0.mk hl204_7
               clear hi204_7 hl204_7
               replace p204 := eq_true p204
               replace q204 := eq_true q204
               try go_wp2_with (first | ((with_reducible refine gate_dst (N := 8) rfl ?_); refine box_event ?hg (N := 8) ?hd (cs := #[.int .i64 0, .slice none 0 0, .slice none 0 0, .int .i64 0, .int .i64 0, .int .i64 0, .int .i64 0, .slice none 0 0, .string (⟨#[]⟩ : ByteArray)]) (t := 41) ?hr ?_; (case hd => rfl); (case hg => rfl); (case hr => first | (go_simp; done) | (go_simp; rfl)); intro gb205 hg w39 hbox hb; replace HO_6 := qE HO_6 hb; have BK205 := Aside0.mk (hbox); have GW205 := qT HB hg; have GE205 := qS HB hg; replace HB := Aside0.mk (below_step (qW HB.out) hb); have NB198_205 := Aside0.mk ((by rw [hg]; exact Nat.ne_of_lt (blk_lt (g := gb198) (o := .cells #[.slice (some ad204) l0_0.length c0_0] 32 (0, 0)) (qB BK198.out)) : gb198 ≠ gb205)); have NB205_198 := Aside0.mk ((by rw [hg]; exact Nat.ne_of_gt (blk_lt (g := gb198) (o := .cells #[.slice (some ad204) l0_0.length c0_0] 32 (0, 0)) (qB BK198.out)) : gb205 ≠ gb198)); replace BK198 := Aside0.mk (blk_below (g := gb198) (o := .cells #[.slice (some ad204) l0_0.length c0_0] 32 (0, 0)) (qB BK198.out) hb); clear hb hbox hg; have hnb40 := NB205_198.out; have hnc40 := NB198_205.out; have hcz41_0 := qC BK205 0 rfl; have hcz41_1 := qC BK205 1 rfl; have hcz41_2 := qC BK205 2 rfl; have hcz41_3 := qC BK205 3 rfl; have hcz41_4 := qC BK205 4 rfl; have hcz41_5 := qC BK205 5 rfl; have hcz41_6 := qC BK205 6 rfl; have hcz41_7 := qC BK205 7 rfl; have hcz41_8 := qC BK205 8 rfl; have hfz41_0 := blk_frozen BK205.out 0; have hfz41_1 := blk_frozen BK205.out 1; have hfz41_2 := blk_frozen BK205.out 2; have hfz41_3 := blk_frozen BK205.out 3; have hfz41_4 := blk_frozen BK205.out 4; have hfz41_5 := blk_frozen BK205.out 5; have hfz41_6 := blk_frozen BK205.out 6; have hfz41_7 := blk_frozen BK205.out 7; have hfz41_8 := blk_frozen BK205.out 8) | ((with_reducible refine gate_callee (f := 60) rfl ?_); refine goesL_ (some 33) rfl rfl Tryz.func60 (by kernel_rfl) rfl #[.agg #[.int .i64 ((rd_T41 l0_0 x26_1).f0), .slice A204_1 ((rd_T41 l0_0 x26_1).f1).length c204_1, .slice A204_2 ((rd_T41 l0_0 x26_1).f2).length c204_2, .int .i64 ((rd_T41 l0_0 x26_1).f3.f0), .int .i64 ((rd_T41 l0_0 x26_1).f3.f1), .int .i64 ((rd_T41 l0_0 x26_1).f3.f2), .int .i64 ((rd_T41 l0_0 x26_1).f3.f3), .slice A204_7 ((rd_T41 l0_0 x26_1).f4).length c204_7, .string ((rd_T41 l0_0 x26_1).f5)]] rfl (by (try simp only [List.map_toArray, List.map_cons, List.map_nil]); first | done | rfl | (simp only [List.length_drop, List.length_take]; rfl)) ?_; (with_reducible refine (event_Length.calls k1 ((rd_T41 l0_0 x26_1).f0) _ _ ((rd_T41 l0_0 x26_1).f1) _ _ ((rd_T41 l0_0 x26_1).f2) ((rd_T41 l0_0 x26_1).f3.f0) ((rd_T41 l0_0 x26_1).f3.f1) ((rd_T41 l0_0 x26_1).f3.f2) ((rd_T41 l0_0 x26_1).f3.f3) _ _ ((rd_T41 l0_0 x26_1).f4) ((rd_T41 l0_0 x26_1).f5) t206 t207 t208 _ ?side1 ?side2 ?side3 ?side4 ?side5 ?side6 A13.out).mono ?_); (case side1 => exact Kd.C_below HR204_1.out (qW HB.out)); (case side2 => exact HC204_1.out); (case side3 => exact Kd.C_below HR204_2.out (qW HB.out)); (case side4 => exact HC204_2.out); (case side5 => exact Kd.C_below HR204_7.out (qW HB.out)); (case side6 => exact HC204_7.out); rintro e w42 ⟨rfl, hb⟩; refine ⟨_, rfl, ?_⟩; replace HO_6 := Aside0.mk (Kd.R_below (qR ((Kd.R_mono (Kd.R_far (p := ⟨gb205, 8, none⟩) (Kd.R_far (p := ⟨gb205, 7, none⟩) (Kd.R_far (p := ⟨gb205, 6, none⟩) (Kd.R_far (p := ⟨gb205, 5, none⟩) (Kd.R_far (p := ⟨gb205, 4, none⟩) (Kd.R_far (p := ⟨gb205, 3, none⟩) (Kd.R_far (p := ⟨gb205, 2, none⟩) (Kd.R_far (p := ⟨gb205, 1, none⟩) (Kd.R_far (p := ⟨gb205, 0, none⟩) (Kd.R_types HO_6.out BK205.out (by decide)) (fun _ hk => hk.2) (.int .i64 ((rd_T41 l0_0 x26_1).f0))) (fun _ hk => hk.2) (.slice A204_1 ((rd_T41 l0_0 x26_1).f1).length c204_1)) (fun _ hk => hk.2) (.slice A204_2 ((rd_T41 l0_0 x26_1).f2).length c204_2)) (fun _ hk => hk.2) (.int .i64 ((rd_T41 l0_0 x26_1).f3.f0))) (fun _ hk => hk.2) (.int .i64 ((rd_T41 l0_0 x26_1).f3.f1))) (fun _ hk => hk.2) (.int .i64 ((rd_T41 l0_0 x26_1).f3.f2))) (fun _ hk => hk.2) (.int .i64 ((rd_T41 l0_0 x26_1).f3.f3))) (fun _ hk => hk.2) (.slice A204_7 ((rd_T41 l0_0 x26_1).f4).length c204_7)) (fun _ hk => hk.2) (.string ((rd_T41 l0_0 x26_1).f5))) (fun _ h_ => h_.1)))) hb); replace BK198 := Aside0.mk (blk_below (g := gb198) (o := .cells #[.slice (some ad204) l0_0.length c0_0] 32 (0, 0)) (by (with_reducible repeat (first | refine blk_drewN ?_ _ | refine blk_drew ?_ | refine blk_alloc ?_ _)); refine blk_far ?_ NB198_205.out _; (with_reducible repeat (first | refine blk_drewN ?_ _ | refine blk_drew ?_ | refine blk_alloc ?_ _)); refine blk_far ?_ NB198_205.out _; (with_reducible repeat (first | refine blk_drewN ?_ _ | refine blk_drew ?_ | refine blk_alloc ?_ _)); refine blk_far ?_ NB198_205.out _; (with_reducible repeat (first | refine blk_drewN ?_ _ | refine blk_drew ?_ | refine blk_alloc ?_ _)); refine blk_far ?_ NB198_205.out _; (with_reducible repeat (first | refine blk_drewN ?_ _ | refine blk_drew ?_ | refine blk_alloc ?_ _)); refine blk_far ?_ NB198_205.out _; (with_reducible repeat (first | refine blk_drewN ?_ _ | refine blk_drew ?_ | refine blk_alloc ?_ _)); refine blk_far ?_ NB198_205.out _; (with_reducible repeat (first | refine blk_drewN ?_ _ | refine blk_drew ?_ | refine blk_alloc ?_ _)); refine blk_far ?_ NB198_205.out _; (with_reducible repeat (first | refine blk_drewN ?_ _ | refine blk_drew ?_ | refine blk_alloc ?_ _)); refine blk_far ?_ NB198_205.out _; (with_reducible repeat (first | refine blk_drewN ?_ _ | refine blk_drew ?_ | refine blk_alloc ?_ _)); refine blk_far ?_ NB198_205.out _; (with_reducible repeat (first | refine blk_drewN ?_ _ | refine blk_drew ?_ | refine blk_alloc ?_ _)); exact BK198.out) hb); replace BK205 := Aside0.mk (blk_below (g := gb205) (o := .cells #[.int .i64 ((rd_T41 l0_0 x26_1).f0), .slice A204_1 ((rd_T41 l0_0 x26_1).f1).length c204_1, .slice A204_2 ((rd_T41 l0_0 x26_1).f2).length c204_2, .int .i64 ((rd_T41 l0_0 x26_1).f3.f0), .int .i64 ((rd_T41 l0_0 x26_1).f3.f1), .int .i64 ((rd_T41 l0_0 x26_1).f3.f2), .int .i64 ((rd_T41 l0_0 x26_1).f3.f3), .slice A204_7 ((rd_T41 l0_0 x26_1).f4).length c204_7, .string ((rd_T41 l0_0 x26_1).f5)] 41 (0, 0)) (by (with_reducible repeat (first | refine blk_drewN ?_ _ | refine blk_drew ?_ | refine blk_alloc ?_ _)); refine blk_put (cs := #[.int .i64 ((rd_T41 l0_0 x26_1).f0), .slice A204_1 ((rd_T41 l0_0 x26_1).f1).length c204_1, .slice A204_2 ((rd_T41 l0_0 x26_1).f2).length c204_2, .int .i64 ((rd_T41 l0_0 x26_1).f3.f0), .int .i64 ((rd_T41 l0_0 x26_1).f3.f1), .int .i64 ((rd_T41 l0_0 x26_1).f3.f2), .int .i64 ((rd_T41 l0_0 x26_1).f3.f3), .slice A204_7 ((rd_T41 l0_0 x26_1).f4).length c204_7, .string (⟨#[]⟩ : ByteArray)]) ?_ 8 _ rfl; (with_reducible repeat (first | refine blk_drewN ?_ _ | refine blk_drew ?_ | refine blk_alloc ?_ _)); refine blk_put (cs := #[.int .i64 ((rd_T41 l0_0 x26_1).f0), .slice A204_1 ((rd_T41 l0_0 x26_1).f1).length c204_1, .slice A204_2 ((rd_T41 l0_0 x26_1).f2).length c204_2, .int .i64 ((rd_T41 l0_0 x26_1).f3.f0), .int .i64 ((rd_T41 l0_0 x26_1).f3.f1), .int .i64 ((rd_T41 l0_0 x26_1).f3.f2), .int .i64 ((rd_T41 l0_0 x26_1).f3.f3), .slice none 0 0, .string (⟨#[]⟩ : ByteArray)]) ?_ 7 _ rfl; (with_reducible repeat (first | refine blk_drewN ?_ _ | refine blk_drew ?_ | refine blk_alloc ?_ _)); refine blk_put (cs := #[.int .i64 ((rd_T41 l0_0 x26_1).f0), .slice A204_1 ((rd_T41 l0_0 x26_1).f1).length c204_1, .slice A204_2 ((rd_T41 l0_0 x26_1).f2).length c204_2, .int .i64 ((rd_T41 l0_0 x26_1).f3.f0), .int .i64 ((rd_T41 l0_0 x26_1).f3.f1), .int .i64 ((rd_T41 l0_0 x26_1).f3.f2), .int .i64 0, .slice none 0 0, .string (⟨#[]⟩ : ByteArray)]) ?_ 6 _ rfl; (with_reducible repeat (first | refine blk_drewN ?_ _ | refine blk_drew ?_ | refine blk_alloc ?_ _)); refine blk_put (cs := #[.int .i64 ((rd_T41 l0_0 x26_1).f0), .slice A204_1 ((rd_T41 l0_0 x26_1).f1).length c204_1, .slice A204_2 ((rd_T41 l0_0 x26_1).f2).length c204_2, .int .i64 ((rd_T41 l0_0 x26_1).f3.f0), .int .i64 ((rd_T41 l0_0 x26_1).f3.f1), .int .i64 0, .int .i64 0, .slice none 0 0, .string (⟨#[]⟩ : ByteArray)]) ?_ 5 _ rfl; (with_reducible repeat (first | refine blk_drewN ?_ _ | refine blk_drew ?_ | refine blk_alloc ?_ _)); refine blk_put (cs := #[.int .i64 ((rd_T41 l0_0 x26_1).f0), .slice A204_1 ((rd_T41 l0_0 x26_1).f1).length c204_1, .slice A204_2 ((rd_T41 l0_0 x26_1).f2).length c204_2, .int .i64 ((rd_T41 l0_0 x26_1).f3.f0), .int .i64 0, .int .i64 0, .int .i64 0, .slice none 0 0, .string (⟨#[]⟩ : ByteArray)]) ?_ 4 _ rfl; (with_reducible repeat (first | refine blk_drewN ?_ _ | refine blk_drew ?_ | refine blk_alloc ?_ _)); refine blk_put (cs := #[.int .i64 ((rd_T41 l0_0 x26_1).f0), .slice A204_1 ((rd_T41 l0_0 x26_1).f1).length c204_1, .slice A204_2 ((rd_T41 l0_0 x26_1).f2).length c204_2, .int .i64 0, .int .i64 0, .int .i64 0, .int .i64 0, .slice none 0 0, .string (⟨#[]⟩ : ByteArray)]) ?_ 3 _ rfl; (with_reducible repeat (first | refine blk_drewN ?_ _ | refine blk_drew ?_ | refine blk_alloc ?_ _)); refine blk_put (cs := #[.int .i64 ((rd_T41 l0_0 x26_1).f0), .slice A204_1 ((rd_T41 l0_0 x26_1).f1).length c204_1, .slice none 0 0, .int .i64 0, .int .i64 0, .int .i64 0, .int .i64 0, .slice none 0 0, .string (⟨#[]⟩ : ByteArray)]) ?_ 2 _ rfl; (with_reducible repeat (first | refine blk_drewN ?_ _ | refine blk_drew ?_ | refine blk_alloc ?_ _)); refine blk_put (cs := #[.int .i64 ((rd_T41 l0_0 x26_1).f0), .slice none 0 0, .slice none 0 0, .int .i64 0, .int .i64 0, .int .i64 0, .int .i64 0, .slice none 0 0, .string (⟨#[]⟩ : ByteArray)]) ?_ 1 _ rfl; (with_reducible repeat (first | refine blk_drewN ?_ _ | refine blk_drew ?_ | refine blk_alloc ?_ _)); refine blk_put (cs := #[.int .i64 0, .slice none 0 0, .slice none 0 0, .int .i64 0, .int .i64 0, .int .i64 0, .int .i64 0, .slice none 0 0, .string (⟨#[]⟩ : ByteArray)]) ?_ 0 _ rfl; (with_reducible repeat (first | refine blk_drewN ?_ _ | refine blk_drew ?_ | refine blk_alloc ?_ _)); exact BK205.out) hb); replace HB := Aside0.mk (below_step (qW HB.out) hb); (try clear hb); (try clear hb2); (try clear hk); (try clear hi)) | ((with_reducible refine gate_dst (N := 9) rfl ?_); refine box_event ?hg (N := 9) ?hd (cs := #[.int .i64 0, .int .i64 0]) (t := 72) ?hr ?_; (case hd => rfl); (case hg => rfl); (case hr => first | (go_simp; done) | (go_simp; rfl)); intro gb209 hg w43 hbox hb; replace HO_6 := Aside0.mk (Kd.R_below (Kd.R_elderB (qR HO_6.out) gb209 (Nat.le_of_eq hg.symm)) hb); have BK209 := Aside0.mk (hbox); have GW209 := qT HB hg; have GE209 := qS HB hg; replace HB := Aside0.mk (below_step (qW HB.out) hb); have NB198_209 := Aside0.mk ((by rw [hg]; exact Nat.ne_of_lt (blk_lt (g := gb198) (o := .cells #[.slice (some ad204) l0_0.length c0_0] 32 (0, 0)) (qB BK198.out)) : gb198 ≠ gb209)); have NB209_198 := Aside0.mk ((by rw [hg]; exact Nat.ne_of_gt (blk_lt (g := gb198) (o := .cells #[.slice (some ad204) l0_0.length c0_0] 32 (0, 0)) (qB BK198.out)) : gb209 ≠ gb198)); replace BK198 := Aside0.mk (blk_below (g := gb198) (o := .cells #[.slice (some ad204) l0_0.length c0_0] 32 (0, 0)) (qB BK198.out) hb); have NB205_209 := Aside0.mk ((by rw [hg]; exact Nat.ne_of_lt (blk_lt (g := gb205) (o := .cells #[.int .i64 ((rd_T41 l0_0 x26_1).f0), .slice A204_1 ((rd_T41 l0_0 x26_1).f1).length c204_1, .slice A204_2 ((rd_T41 l0_0 x26_1).f2).length c204_2, .int .i64 ((rd_T41 l0_0 x26_1).f3.f0), .int .i64 ((rd_T41 l0_0 x26_1).f3.f1), .int .i64 ((rd_T41 l0_0 x26_1).f3.f2), .int .i64 ((rd_T41 l0_0 x26_1).f3.f3), .slice A204_7 ((rd_T41 l0_0 x26_1).f4).length c204_7, .string ((rd_T41 l0_0 x26_1).f5)] 41 (0, 0)) (qB BK205.out)) : gb205 ≠ gb209)); have NB209_205 := Aside0.mk ((by rw [hg]; exact Nat.ne_of_gt (blk_lt (g := gb205) (o := .cells #[.int .i64 ((rd_T41 l0_0 x26_1).f0), .slice A204_1 ((rd_T41 l0_0 x26_1).f1).length c204_1, .slice A204_2 ((rd_T41 l0_0 x26_1).f2).length c204_2, .int .i64 ((rd_T41 l0_0 x26_1).f3.f0), .int .i64 ((rd_T41 l0_0 x26_1).f3.f1), .int .i64 ((rd_T41 l0_0 x26_1).f3.f2), .int .i64 ((rd_T41 l0_0 x26_1).f3.f3), .slice A204_7 ((rd_T41 l0_0 x26_1).f4).length c204_7, .string ((rd_T41 l0_0 x26_1).f5)] 41 (0, 0)) (qB BK205.out)) : gb209 ≠ gb205)); replace BK205 := Aside0.mk (blk_below (g := gb205) (o := .cells #[.int .i64 ((rd_T41 l0_0 x26_1).f0), .slice A204_1 ((rd_T41 l0_0 x26_1).f1).length c204_1, .slice A204_2 ((rd_T41 l0_0 x26_1).f2).length c204_2, .int .i64 ((rd_T41 l0_0 x26_1).f3.f0), .int .i64 ((rd_T41 l0_0 x26_1).f3.f1), .int .i64 ((rd_T41 l0_0 x26_1).f3.f2), .int .i64 ((rd_T41 l0_0 x26_1).f3.f3), .slice A204_7 ((rd_T41 l0_0 x26_1).f4).length c204_7, .string ((rd_T41 l0_0 x26_1).f5)] 41 (0, 0)) (qB BK205.out) hb); clear hb hbox hg; have hnb44 := NB209_198.out; have hnc44 := NB198_209.out; have hnb45 := NB209_205.out; have hnc45 := NB205_209.out; have hcz46_0 := qC BK209 0 rfl; have hcz46_1 := qC BK209 1 rfl; have hfz46_0 := blk_frozen BK209.out 0; have hfz46_1 := blk_frozen BK209.out 1))
               have n0_ : Aside0 (Kd.R k72 72 ((w43.setCell ⟨gb209, 0, none⟩ (.int .i64 t206)).setCell ⟨gb209, 1, none⟩ (.int .i64 t207)) w.heap.size (fun k_ => k_ ≠ gb209) u6 x6_1) := ⟨by (with_reducible repeat (first | apply Kd.R_alloc | apply Kd.R_drewN | apply Kd.R_drew)); exact Kd.R_mono (Kd.R_far (p := ⟨gb209, 1, none⟩) (Kd.R_far (p := ⟨gb209, 0, none⟩) (Kd.R_mono HO_6.out (fun k_ hk => (⟨hk, hk.2⟩ : _ ∧ k_ ≠ gb209))) (fun _ hk => hk.2) (.int .i64 t206)) (fun _ hk => hk.2) (.int .i64 t207)) (fun _ hk => hk.1.2)⟩
               have n1_ : Aside0 (((w43.setCell ⟨gb209, 0, none⟩ (.int .i64 t206)).setCell ⟨gb209, 1, none⟩ (.int .i64 t207)).heap[gb198]? = some (.cells #[.slice (some ad204) l0_0.length c0_0] 32 (0, 0))) := ⟨by (with_reducible repeat (first | refine blk_drewN ?_ _ | refine blk_drew ?_ | refine blk_alloc ?_ _)); refine blk_far ?_ NB198_209.out _; (with_reducible repeat (first | refine blk_drewN ?_ _ | refine blk_drew ?_ | refine blk_alloc ?_ _)); refine blk_far ?_ NB198_209.out _; (with_reducible repeat (first | refine blk_drewN ?_ _ | refine blk_drew ?_ | refine blk_alloc ?_ _)); exact BK198.out⟩
               have n2_ : Aside0 (((w43.setCell ⟨gb209, 0, none⟩ (.int .i64 t206)).setCell ⟨gb209, 1, none⟩ (.int .i64 t207)).heap[gb205]? = some (.cells #[.int .i64 ((rd_T41 l0_0 x26_1).f0), .slice A204_1 ((rd_T41 l0_0 x26_1).f1).length c204_1, .slice A204_2 ((rd_T41 l0_0 x26_1).f2).length c204_2, .int .i64 ((rd_T41 l0_0 x26_1).f3.f0), .int .i64 ((rd_T41 l0_0 x26_1).f3.f1), .int .i64 ((rd_T41 l0_0 x26_1).f3.f2), .int .i64 ((rd_T41 l0_0 x26_1).f3.f3), .slice A204_7 ((rd_T41 l0_0 x26_1).f4).length c204_7, .string ((rd_T41 l0_0 x26_1).f5)] 41 (0, 0))) := ⟨by (with_reducible repeat (first | refine blk_drewN ?_ _ | refine blk_drew ?_ | refine blk_alloc ?_ _)); refine blk_far ?_ NB205_209.out _; (with_reducible repeat (first | refine blk_drewN ?_ _ | refine blk_drew ?_ | refine blk_alloc ?_ _)); refine blk_far ?_ NB205_209.out _; (with_reducible repeat (first | refine blk_drewN ?_ _ | refine blk_drew ?_ | refine blk_alloc ?_ _)); exact BK205.out⟩
               have n3_ : Aside0 (((w43.setCell ⟨gb209, 0, none⟩ (.int .i64 t206)).setCell ⟨gb209, 1, none⟩ (.int .i64 t207)).heap[gb209]? = some (.cells #[.int .i64 t206, .int .i64 t207] 72 (0, 0))) := ⟨by (with_reducible repeat (first | refine blk_drewN ?_ _ | refine blk_drew ?_ | refine blk_alloc ?_ _)); refine blk_put (cs := #[.int .i64 t206, .int .i64 0]) ?_ 1 _ rfl; (with_reducible repeat (first | refine blk_drewN ?_ _ | refine blk_drew ?_ | refine blk_alloc ?_ _)); refine blk_put (cs := #[.int .i64 0, .int .i64 0]) ?_ 0 _ rfl; (with_reducible repeat (first | refine blk_drewN ?_ _ | refine blk_drew ?_ | refine blk_alloc ?_ _)); exact BK209.out⟩
               have n4_ : Aside0 (Below w.heap.size w ((w43.setCell ⟨gb209, 0, none⟩ (.int .i64 t206)).setCell ⟨gb209, 1, none⟩ (.int .i64 t207))) := ⟨by exact qW HB.out⟩
               (try clear HO_6)
               (try clear BK198)
               (try clear BK205)
               (try clear BK209)
               (try clear HB)
               generalize ((w43.setCell ⟨gb209, 0, none⟩ (.int .i64 t206)).setCell ⟨gb209, 1, none⟩ (.int .i64 t207)) = w47 at n0_ n1_ n2_ n3_ n4_ ⊢
               have HO_6 := n0_
               have BK198 := n1_
               have BK205 := n2_
               have BK209 := n3_
               have HB := n4_
               clear n0_ n1_ n2_ n3_ n4_
               replace HO_6 := Aside0.mk (Kd.R_drew HO_6.out)
               replace BK198 := Aside0.mk (blk_drew BK198.out)
               replace BK205 := Aside0.mk (blk_drew BK205.out)
               replace BK209 := Aside0.mk (blk_drew BK209.out)
               replace HB := Aside0.mk (below_drew1 HB.out)
               obtain ⟨Ao49, co49, eo49⟩ := Kd.R_slice HO_6.out
               (first | subst eo49 | (injection eo49 with f1_ f2_ f3_; have f4_ := f1_.symm; have f5_ := f3_.symm; clear f1_ f2_ f3_; subst f4_; subst f5_))
               have p210 : 0 ≤ (x26_1 : Int) := of_decide_eq_true (by first | (with_reducible assumption) | assumption)
               have q210 : x26_1 < (x6_1.length : Int) := of_decide_eq_true (by first | (with_reducible assumption) | assumption)
               obtain ⟨ad210, e210, hx210_0, hx210_1⟩ := at_T72 (Kd.R_reads' HO_6.out).2.2 x26_1 p210 q210
               cases e210
               replace p210 := eq_true p210
               replace q210 := eq_true q210
               refine start_ (n := 12) (S := fun w' => w'.cell? ⟨gb209, 0, none⟩ = some (.int .i64 t206) ∧ w'.cell? ⟨gb209, 1, none⟩ = some (.int .i64 t207) ∧ w'.cell? (ad210.add ((x26_1).toNat * 2)) = some (.int .i64 ((rd_T72 x6_1 x26_1).f0)) ∧ w'.cell? ⟨(ad210.add ((x26_1).toNat * 2)).block, (ad210.add ((x26_1).toNat * 2)).off + 1, none⟩ = some (.int .i64 ((rd_T72 x6_1 x26_1).f1))) (ds := []) #[false, false, false, false, false, false, false, false, false, false, false, false] (by kernel_rfl) rfl rfl ⟨(blk_cell BK209.out 0).trans rfl, (blk_cell BK209.out 1).trans rfl, hx210_0, hx210_1⟩ (fun hHeld => ?_); refine with_tabW voice_sums.tab9 voice_sums.bits9 (fun HT_ HW_ => ?_)
               generalize w47.drew = w48 at HO_6 BK198 BK205 BK209 HB hx210_0 hx210_1 hHeld ⊢
               refine pure_ (i := 0) (N := some 37) (v := ?_) (a' := ?_) #[true, false, false, false, false, false, false, false, false, false, false, false] rfl rfl (any_of HT_.out (by kernel_rfl)) (fun _ _ _ h => h) (Or.inl ⟨by rfl, ?_⟩) ?_ ?_
               rotate_left
               · intro w'
                 go_simp
                 with_reducible rfl
               rotate_left
               · simp only [Act.put, qa_, qz_, qs_, i64_w, i32_w]
                 rfl
               refine pure_ (i := 1) (N := some 38) (v := ?_) (a' := ?_) #[true, true, false, false, false, false, false, false, false, false, false, false] rfl rfl (any_of HT_.out (by kernel_rfl)) (fun _ _ _ h => h) (Or.inl ⟨by rfl, ?_⟩) ?_ ?_
               rotate_left
               · intro w'
                 go_simp
                 with_reducible rfl
               rotate_left
               · simp only [Act.put, qa_, qz_, qs_, i64_w, i32_w]
                 rfl
               refine pure_ (i := 2) (N := some 39) (v := ?_) (a' := ?_) #[true, true, true, false, false, false, false, false, false, false, false, false] rfl rfl (any_of HT_.out (by kernel_rfl)) (fun _ _ _ h => h) (Or.inl ⟨by rfl, ?_⟩) ?_ ?_
               rotate_left
               · intro w'
                 go_simp
                 with_reducible rfl
               rotate_left
               · simp only [Act.put, qa_, qz_, qs_, i64_w, i32_w]
                 rfl
               refine take_ (i := 3) (N := some 40) (v := ?_) (a' := ?_) #[true, true, true, true, false, false, false, false, false, false, false, false] rfl rfl (take_ofW HT_.out HW_.out (by kernel_rfl)) (fun _ _ _ h => h) (Or.inl ⟨by rfl, ?_⟩) hHeld ?_ ?_
               rotate_left
               · rintro w' ⟨s0, s1, s2, s3⟩
                 go_simp
                 with_reducible rfl
               rotate_left
               · simp only [Act.put, qa_, qz_, qs_, i64_w, i32_w]
                 rfl
               refine take_ (i := 4) (N := some 41) (v := ?_) (a' := ?_) #[true, true, true, true, true, false, false, false, false, false, false, false] rfl rfl (take_ofW HT_.out HW_.out (by kernel_rfl)) (fun _ _ _ h => h) (Or.inl ⟨by rfl, ?_⟩) hHeld ?_ ?_
               rotate_left
               · rintro w' ⟨s0, s1, s2, s3⟩
                 go_simp
                 with_reducible rfl
               rotate_left
               · simp only [Act.put, qa_, qz_, qs_, i64_w, i32_w]
                 rfl
               refine join_ (σ := Nat) 2 #[true, true, true, true, true, true, true, true, true, true, false, false] (fun s_ => [(42, .tuple #[.agg #[.int .i64 t211, .int .i64 t212], .int .i64 t213]), (11, .pointer (some ⟨s_, 0, none⟩)), (36, .tuple #[.agg #[.int .i64 t211, .int .i64 t212], .int .i64 t213]), (43, .agg #[.int .i64 t211, .int .i64 t212]), (44, .int .i64 t213)]) (fun s_ w' => (w'.cell? ⟨gb209, 0, none⟩ = some (.int .i64 t206) ∧ w'.cell? ⟨gb209, 1, none⟩ = some (.int .i64 t207) ∧ w'.cell? (ad210.add ((x26_1).toNat * 2)) = some (.int .i64 ((rd_T72 x6_1 x26_1).f0)) ∧ w'.cell? ⟨(ad210.add ((x26_1).toNat * 2)).block, (ad210.add ((x26_1).toNat * 2)).off + 1, none⟩ = some (.int .i64 ((rd_T72 x6_1 x26_1).f1))) ∧ (Kd.R k72 72 w' w.heap.size (fun k_ => k_ ≠ gb209 ∧ k_ ≠ s_) (.slice (some ad210) x6_1.length co49) x6_1) ∧ (w'.heap[gb198]? = some (.cells #[.slice (some ad204) l0_0.length c0_0] 32 (0, 0))) ∧ (w'.heap[gb205]? = some (.cells #[.int .i64 ((rd_T41 l0_0 x26_1).f0), .slice A204_1 ((rd_T41 l0_0 x26_1).f1).length c204_1, .slice A204_2 ((rd_T41 l0_0 x26_1).f2).length c204_2, .int .i64 ((rd_T41 l0_0 x26_1).f3.f0), .int .i64 ((rd_T41 l0_0 x26_1).f3.f1), .int .i64 ((rd_T41 l0_0 x26_1).f3.f2), .int .i64 ((rd_T41 l0_0 x26_1).f3.f3), .slice A204_7 ((rd_T41 l0_0 x26_1).f4).length c204_7, .string ((rd_T41 l0_0 x26_1).f5)] 41 (0, 0))) ∧ (w'.heap[gb209]? = some (.cells #[.int .i64 t206, .int .i64 t207] 72 (0, 0))) ∧ (w'.heap[s_]? = some (.cells #[.int .i64 0, .int .i64 0] 72 (0, 0))) ∧ (w.heap.size ≤ s_) ∧ (w.heap.size ≤ s_) ∧ (gb198 ≠ s_) ∧ (s_ ≠ gb198) ∧ (gb205 ≠ s_) ∧ (s_ ≠ gb205) ∧ (gb209 ≠ s_) ∧ (s_ ≠ gb209) ∧ (Below w.heap.size w w')) ?_ ?_
               rotate_left
               · intro hCont
                 refine two_ (i := 5) (j := 9) (Ni := some 42) (Nj := some 11) #[true, true, true, true, true, true, false, false, false, false, false, false] #[true, true, true, true, true, false, false, false, false, true, false, false] rfl rfl rfl rfl (two_of HT_.out (by kernel_rfl)) (by decide) (by decide) (fun K hK => ?_) (fun K hK => ?_)
                 · skip
                   refine goes_ Tryz.func61 (by kernel_rfl) rfl #[.agg #[.int .i64 ((rd_T72 x6_1 x26_1).f0), .int .i64 ((rd_T72 x6_1 x26_1).f1)], .agg #[.int .i64 t206, .int .i64 t207]] (by rfl) rfl rfl (by (try simp only [List.map_toArray, List.map_cons, List.map_nil]); first | done | rfl | (simp only [List.length_drop, List.length_take]; rfl)) ?_
                   with_reducible refine (ratio_Add.calls ((rd_T72 x6_1 x26_1).f0) ((rd_T72 x6_1 x26_1).f1) t206 t207 t211 t212 t213 _ A15.out).mono ?_
                   rintro e w50 ⟨rfl, hb⟩
                   have HS2_ := (hb.cell (World.block_lt_of_cell? _ _ (hHeld.2.2.1))).trans (hHeld.2.2.1)
                   have HS3_ := (hb.cell (World.block_lt_of_cell? _ _ (hHeld.2.2.2))).trans (hHeld.2.2.2)
                   refine ⟨_, rfl, ?_⟩
                   replace HO_6 := qE HO_6 hb
                   replace BK198 := Aside0.mk (blk_below (g := gb198) (o := .cells #[.slice (some ad204) l0_0.length c0_0] 32 (0, 0)) (qB BK198.out) hb)
                   replace BK205 := Aside0.mk (blk_below (g := gb205) (o := .cells #[.int .i64 ((rd_T41 l0_0 x26_1).f0), .slice A204_1 ((rd_T41 l0_0 x26_1).f1).length c204_1, .slice A204_2 ((rd_T41 l0_0 x26_1).f2).length c204_2, .int .i64 ((rd_T41 l0_0 x26_1).f3.f0), .int .i64 ((rd_T41 l0_0 x26_1).f3.f1), .int .i64 ((rd_T41 l0_0 x26_1).f3.f2), .int .i64 ((rd_T41 l0_0 x26_1).f3.f3), .slice A204_7 ((rd_T41 l0_0 x26_1).f4).length c204_7, .string ((rd_T41 l0_0 x26_1).f5)] 41 (0, 0)) (qB BK205.out) hb)
                   replace BK209 := qD BK209 hb
                   replace HB := Aside0.mk (below_step (qW HB.out) hb)
                   (try clear hb)
                   (try clear hb2)
                   (try clear hk)
                   (try clear hi)
                   refine hK.out _ _ ⟨(blk_cell BK209.out 0).trans rfl, (blk_cell BK209.out 1).trans rfl, HS2_, HS3_⟩ (fun hHeld => ?_)
                   clear hK K
                   refine norm_ (a' := ?_) ?_ ?_
                   rotate_left
                   · show Act.put _ (some 42) _ = _
                     simp only [Act.put, qa_, qz_, qs_, i64_w, i32_w]
                     rfl
                   refine pure_ (i := 6) (N := some 36) (v := ?_) (a' := ?_) #[true, true, true, true, true, true, true, false, false, false, false, false] rfl rfl (any_of HT_.out (by kernel_rfl)) (fun _ _ _ h => h) (Or.inl ⟨by rfl, ?_⟩) ?_ ?_
                   rotate_left
                   · intro w'
                     go_simp
                     with_reducible rfl
                   rotate_left
                   · simp only [Act.put, qa_, qz_, qs_, i64_w, i32_w]
                     rfl
                   refine pure_ (i := 7) (N := some 43) (v := ?_) (a' := ?_) #[true, true, true, true, true, true, true, true, false, false, false, false] rfl rfl (any_of HT_.out (by kernel_rfl)) (fun _ _ _ h => h) (Or.inl ⟨by rfl, ?_⟩) ?_ ?_
                   rotate_left
                   · intro w'
                     go_simp
                     with_reducible rfl
                   rotate_left
                   · simp only [Act.put, qa_, qz_, qs_, i64_w, i32_w]
                     rfl
                   refine pure_ (i := 8) (N := some 44) (v := ?_) (a' := ?_) #[true, true, true, true, true, true, true, true, true, false, false, false] rfl rfl (any_of HT_.out (by kernel_rfl)) (fun _ _ _ h => h) (Or.inl ⟨by rfl, ?_⟩) ?_ ?_
                   rotate_left
                   · intro w'
                     go_simp
                     with_reducible rfl
                   rotate_left
                   · simp only [Act.put, qa_, qz_, qs_, i64_w, i32_w]
                     rfl
                   refine one_ (i := 9) (N := some 11) #[true, true, true, true, true, true, true, true, true, true, false, false] rfl rfl (one_of HT_.out (by kernel_rfl)) (by decide) (fun K hK => ?_)
                   refine box_step ?hg (N := 11) ?hd (cs := #[.int .i64 0, .int .i64 0]) (t := 72) ?hr ?_; (case hd => rfl); (case hg => rfl); (case hr => first | (go_simp; done) | (go_simp; rfl))
                   intro gb214 hg w51 hbox hb
                   have HS2_ := (hb.cell (World.block_lt_of_cell? _ _ (hHeld.2.2.1))).trans (hHeld.2.2.1)
                   have HS3_ := (hb.cell (World.block_lt_of_cell? _ _ (hHeld.2.2.2))).trans (hHeld.2.2.2)
                   replace HO_6 := Aside0.mk (Kd.R_below (Kd.R_elderB (qR HO_6.out) gb214 (Nat.le_of_eq hg.symm)) hb)
                   have BK214 := Aside0.mk (hbox)
                   have GW214 := qT HB hg
                   have GE214 := qS HB hg
                   replace HB := Aside0.mk (below_step (qW HB.out) hb)
                   have NB198_214 := Aside0.mk ((by rw [hg]; exact Nat.ne_of_lt (blk_lt (g := gb198) (o := .cells #[.slice (some ad204) l0_0.length c0_0] 32 (0, 0)) (qB BK198.out)) : gb198 ≠ gb214))
                   have NB214_198 := Aside0.mk ((by rw [hg]; exact Nat.ne_of_gt (blk_lt (g := gb198) (o := .cells #[.slice (some ad204) l0_0.length c0_0] 32 (0, 0)) (qB BK198.out)) : gb214 ≠ gb198))
                   replace BK198 := Aside0.mk (blk_below (g := gb198) (o := .cells #[.slice (some ad204) l0_0.length c0_0] 32 (0, 0)) (qB BK198.out) hb)
                   have NB205_214 := Aside0.mk ((by rw [hg]; exact Nat.ne_of_lt (blk_lt (g := gb205) (o := .cells #[.int .i64 ((rd_T41 l0_0 x26_1).f0), .slice A204_1 ((rd_T41 l0_0 x26_1).f1).length c204_1, .slice A204_2 ((rd_T41 l0_0 x26_1).f2).length c204_2, .int .i64 ((rd_T41 l0_0 x26_1).f3.f0), .int .i64 ((rd_T41 l0_0 x26_1).f3.f1), .int .i64 ((rd_T41 l0_0 x26_1).f3.f2), .int .i64 ((rd_T41 l0_0 x26_1).f3.f3), .slice A204_7 ((rd_T41 l0_0 x26_1).f4).length c204_7, .string ((rd_T41 l0_0 x26_1).f5)] 41 (0, 0)) (qB BK205.out)) : gb205 ≠ gb214))
                   have NB214_205 := Aside0.mk ((by rw [hg]; exact Nat.ne_of_gt (blk_lt (g := gb205) (o := .cells #[.int .i64 ((rd_T41 l0_0 x26_1).f0), .slice A204_1 ((rd_T41 l0_0 x26_1).f1).length c204_1, .slice A204_2 ((rd_T41 l0_0 x26_1).f2).length c204_2, .int .i64 ((rd_T41 l0_0 x26_1).f3.f0), .int .i64 ((rd_T41 l0_0 x26_1).f3.f1), .int .i64 ((rd_T41 l0_0 x26_1).f3.f2), .int .i64 ((rd_T41 l0_0 x26_1).f3.f3), .slice A204_7 ((rd_T41 l0_0 x26_1).f4).length c204_7, .string ((rd_T41 l0_0 x26_1).f5)] 41 (0, 0)) (qB BK205.out)) : gb214 ≠ gb205))
                   replace BK205 := Aside0.mk (blk_below (g := gb205) (o := .cells #[.int .i64 ((rd_T41 l0_0 x26_1).f0), .slice A204_1 ((rd_T41 l0_0 x26_1).f1).length c204_1, .slice A204_2 ((rd_T41 l0_0 x26_1).f2).length c204_2, .int .i64 ((rd_T41 l0_0 x26_1).f3.f0), .int .i64 ((rd_T41 l0_0 x26_1).f3.f1), .int .i64 ((rd_T41 l0_0 x26_1).f3.f2), .int .i64 ((rd_T41 l0_0 x26_1).f3.f3), .slice A204_7 ((rd_T41 l0_0 x26_1).f4).length c204_7, .string ((rd_T41 l0_0 x26_1).f5)] 41 (0, 0)) (qB BK205.out) hb)
                   have NB209_214 := qL BK209 hg
                   have NB214_209 := qM BK209 hg
                   replace BK209 := qD BK209 hb
                   clear hb hbox hg
                   refine hK.out _ _ ⟨(blk_cell BK209.out 0).trans rfl, (blk_cell BK209.out 1).trans rfl, HS2_, HS3_⟩ (fun hHeld => ?_)
                   clear hK K
                   refine norm_ (a' := ?_) ?_ ?_
                   rotate_left
                   · show Act.put _ (some 11) _ = _
                     simp only [Act.put, qa_, qz_, qs_, i64_w, i32_w]
                     rfl
                   exact norm_ (by simp only [putAll, Act.put, qa_, qz_, qs_]) (hCont (gb214) _ ⟨hHeld, (qR HO_6.out), (qB BK198.out), (qB BK205.out), (qB BK209.out), (qB BK214.out), GW214.out, (GE214.elim id), NB198_214.out, NB214_198.out, NB205_214.out, NB214_205.out, NB209_214.out, NB214_209.out, (qW HB.out)⟩)
                 · skip
                   refine box_step ?hg (N := 11) ?hd (cs := #[.int .i64 0, .int .i64 0]) (t := 72) ?hr ?_; (case hd => rfl); (case hg => rfl); (case hr => first | (go_simp; done) | (go_simp; rfl))
                   intro gb214 hg w50 hbox hb
                   have HS2_ := (hb.cell (World.block_lt_of_cell? _ _ (hHeld.2.2.1))).trans (hHeld.2.2.1)
                   have HS3_ := (hb.cell (World.block_lt_of_cell? _ _ (hHeld.2.2.2))).trans (hHeld.2.2.2)
                   replace HO_6 := Aside0.mk (Kd.R_below (Kd.R_elderB (qR HO_6.out) gb214 (Nat.le_of_eq hg.symm)) hb)
                   have BK214 := Aside0.mk (hbox)
                   have GW214 := qT HB hg
                   have GE214 := qS HB hg
                   replace HB := Aside0.mk (below_step (qW HB.out) hb)
                   have NB198_214 := Aside0.mk ((by rw [hg]; exact Nat.ne_of_lt (blk_lt (g := gb198) (o := .cells #[.slice (some ad204) l0_0.length c0_0] 32 (0, 0)) (qB BK198.out)) : gb198 ≠ gb214))
                   have NB214_198 := Aside0.mk ((by rw [hg]; exact Nat.ne_of_gt (blk_lt (g := gb198) (o := .cells #[.slice (some ad204) l0_0.length c0_0] 32 (0, 0)) (qB BK198.out)) : gb214 ≠ gb198))
                   replace BK198 := Aside0.mk (blk_below (g := gb198) (o := .cells #[.slice (some ad204) l0_0.length c0_0] 32 (0, 0)) (qB BK198.out) hb)
                   have NB205_214 := Aside0.mk ((by rw [hg]; exact Nat.ne_of_lt (blk_lt (g := gb205) (o := .cells #[.int .i64 ((rd_T41 l0_0 x26_1).f0), .slice A204_1 ((rd_T41 l0_0 x26_1).f1).length c204_1, .slice A204_2 ((rd_T41 l0_0 x26_1).f2).length c204_2, .int .i64 ((rd_T41 l0_0 x26_1).f3.f0), .int .i64 ((rd_T41 l0_0 x26_1).f3.f1), .int .i64 ((rd_T41 l0_0 x26_1).f3.f2), .int .i64 ((rd_T41 l0_0 x26_1).f3.f3), .slice A204_7 ((rd_T41 l0_0 x26_1).f4).length c204_7, .string ((rd_T41 l0_0 x26_1).f5)] 41 (0, 0)) (qB BK205.out)) : gb205 ≠ gb214))
                   have NB214_205 := Aside0.mk ((by rw [hg]; exact Nat.ne_of_gt (blk_lt (g := gb205) (o := .cells #[.int .i64 ((rd_T41 l0_0 x26_1).f0), .slice A204_1 ((rd_T41 l0_0 x26_1).f1).length c204_1, .slice A204_2 ((rd_T41 l0_0 x26_1).f2).length c204_2, .int .i64 ((rd_T41 l0_0 x26_1).f3.f0), .int .i64 ((rd_T41 l0_0 x26_1).f3.f1), .int .i64 ((rd_T41 l0_0 x26_1).f3.f2), .int .i64 ((rd_T41 l0_0 x26_1).f3.f3), .slice A204_7 ((rd_T41 l0_0 x26_1).f4).length c204_7, .string ((rd_T41 l0_0 x26_1).f5)] 41 (0, 0)) (qB BK205.out)) : gb214 ≠ gb205))
                   replace BK205 := Aside0.mk (blk_below (g := gb205) (o := .cells #[.int .i64 ((rd_T41 l0_0 x26_1).f0), .slice A204_1 ((rd_T41 l0_0 x26_1).f1).length c204_1, .slice A204_2 ((rd_T41 l0_0 x26_1).f2).length c204_2, .int .i64 ((rd_T41 l0_0 x26_1).f3.f0), .int .i64 ((rd_T41 l0_0 x26_1).f3.f1), .int .i64 ((rd_T41 l0_0 x26_1).f3.f2), .int .i64 ((rd_T41 l0_0 x26_1).f3.f3), .slice A204_7 ((rd_T41 l0_0 x26_1).f4).length c204_7, .string ((rd_T41 l0_0 x26_1).f5)] 41 (0, 0)) (qB BK205.out) hb)
                   have NB209_214 := qL BK209 hg
                   have NB214_209 := qM BK209 hg
                   replace BK209 := qD BK209 hb
                   clear hb hbox hg
                   refine hK.out _ _ ⟨(blk_cell BK209.out 0).trans rfl, (blk_cell BK209.out 1).trans rfl, HS2_, HS3_⟩ (fun hHeld => ?_)
                   clear hK K
                   refine norm_ (a' := ?_) ?_ ?_
                   rotate_left
                   · show Act.put _ (some 11) _ = _
                     simp only [Act.put, qa_, qz_, qs_, i64_w, i32_w]
                     rfl
                   refine one_ (i := 5) (N := some 42) #[true, true, true, true, true, true, false, false, false, true, false, false] rfl rfl (one_of HT_.out (by kernel_rfl)) (by decide) (fun K hK => ?_)
                   refine goes_ Tryz.func61 (by kernel_rfl) rfl #[.agg #[.int .i64 ((rd_T72 x6_1 x26_1).f0), .int .i64 ((rd_T72 x6_1 x26_1).f1)], .agg #[.int .i64 t206, .int .i64 t207]] (by rfl) rfl rfl (by (try simp only [List.map_toArray, List.map_cons, List.map_nil]); first | done | rfl | (simp only [List.length_drop, List.length_take]; rfl)) ?_
                   with_reducible refine (ratio_Add.calls ((rd_T72 x6_1 x26_1).f0) ((rd_T72 x6_1 x26_1).f1) t206 t207 t211 t212 t213 _ A15.out).mono ?_
                   rintro e w51 ⟨rfl, hb⟩
                   have HS2_ := (hb.cell (World.block_lt_of_cell? _ _ (hHeld.2.2.1))).trans (hHeld.2.2.1)
                   have HS3_ := (hb.cell (World.block_lt_of_cell? _ _ (hHeld.2.2.2))).trans (hHeld.2.2.2)
                   refine ⟨_, rfl, ?_⟩
                   replace HO_6 := qE HO_6 hb
                   replace BK198 := Aside0.mk (blk_below (g := gb198) (o := .cells #[.slice (some ad204) l0_0.length c0_0] 32 (0, 0)) (qB BK198.out) hb)
                   replace BK205 := Aside0.mk (blk_below (g := gb205) (o := .cells #[.int .i64 ((rd_T41 l0_0 x26_1).f0), .slice A204_1 ((rd_T41 l0_0 x26_1).f1).length c204_1, .slice A204_2 ((rd_T41 l0_0 x26_1).f2).length c204_2, .int .i64 ((rd_T41 l0_0 x26_1).f3.f0), .int .i64 ((rd_T41 l0_0 x26_1).f3.f1), .int .i64 ((rd_T41 l0_0 x26_1).f3.f2), .int .i64 ((rd_T41 l0_0 x26_1).f3.f3), .slice A204_7 ((rd_T41 l0_0 x26_1).f4).length c204_7, .string ((rd_T41 l0_0 x26_1).f5)] 41 (0, 0)) (qB BK205.out) hb)
                   replace BK209 := qD BK209 hb
                   replace BK214 := qD BK214 hb
                   replace HB := Aside0.mk (below_step (qW HB.out) hb)
                   (try clear hb)
                   (try clear hb2)
                   (try clear hk)
                   (try clear hi)
                   refine hK.out _ _ ⟨(blk_cell BK209.out 0).trans rfl, (blk_cell BK209.out 1).trans rfl, HS2_, HS3_⟩ (fun hHeld => ?_)
                   clear hK K
                   refine norm_ (a' := ?_) ?_ ?_
                   rotate_left
                   · show Act.put _ (some 42) _ = _
                     simp only [Act.put, qa_, qz_, qs_, i64_w, i32_w]
                     rfl
                   refine pure_ (i := 6) (N := some 36) (v := ?_) (a' := ?_) #[true, true, true, true, true, true, true, false, false, true, false, false] rfl rfl (any_of HT_.out (by kernel_rfl)) (fun _ _ _ h => h) (Or.inl ⟨by rfl, ?_⟩) ?_ ?_
                   rotate_left
                   · intro w'
                     go_simp
                     with_reducible rfl
                   rotate_left
                   · simp only [Act.put, qa_, qz_, qs_, i64_w, i32_w]
                     rfl
                   refine pure_ (i := 7) (N := some 43) (v := ?_) (a' := ?_) #[true, true, true, true, true, true, true, true, false, true, false, false] rfl rfl (any_of HT_.out (by kernel_rfl)) (fun _ _ _ h => h) (Or.inl ⟨by rfl, ?_⟩) ?_ ?_
                   rotate_left
                   · intro w'
                     go_simp
                     with_reducible rfl
                   rotate_left
                   · simp only [Act.put, qa_, qz_, qs_, i64_w, i32_w]
                     rfl
                   refine pure_ (i := 8) (N := some 44) (v := ?_) (a' := ?_) #[true, true, true, true, true, true, true, true, true, true, false, false] rfl rfl (any_of HT_.out (by kernel_rfl)) (fun _ _ _ h => h) (Or.inl ⟨by rfl, ?_⟩) ?_ ?_
                   rotate_left
                   · intro w'
                     go_simp
                     with_reducible rfl
                   rotate_left
                   · simp only [Act.put, qa_, qz_, qs_, i64_w, i32_w]
                     rfl
                   exact norm_ (by simp only [putAll, Act.put, qa_, qz_, qs_]) (hCont (gb214) _ ⟨hHeld, (qR HO_6.out), (qB BK198.out), (qB BK205.out), (qB BK209.out), (qB BK214.out), GW214.out, (GE214.elim id), NB198_214.out, NB214_198.out, NB205_214.out, NB214_205.out, NB209_214.out, NB214_209.out, (qW HB.out)⟩)
               rintro gb214 w52 ⟨hS_, h0_, h1_, h2_, h3_, h4_, h5_, h6_, h7_, h8_, h9_, h10_, h11_, h12_, h13_⟩
               replace HO_6 : Aside0 (Kd.R k72 72 w52 w.heap.size (fun k_ => k_ ≠ gb209 ∧ k_ ≠ gb214) (.slice (some ad210) x6_1.length co49) x6_1) := ⟨h0_⟩
               replace BK198 : Aside0 (w52.heap[gb198]? = some (.cells #[.slice (some ad204) l0_0.length c0_0] 32 (0, 0))) := ⟨h1_⟩
               replace BK205 : Aside0 (w52.heap[gb205]? = some (.cells #[.int .i64 ((rd_T41 l0_0 x26_1).f0), .slice A204_1 ((rd_T41 l0_0 x26_1).f1).length c204_1, .slice A204_2 ((rd_T41 l0_0 x26_1).f2).length c204_2, .int .i64 ((rd_T41 l0_0 x26_1).f3.f0), .int .i64 ((rd_T41 l0_0 x26_1).f3.f1), .int .i64 ((rd_T41 l0_0 x26_1).f3.f2), .int .i64 ((rd_T41 l0_0 x26_1).f3.f3), .slice A204_7 ((rd_T41 l0_0 x26_1).f4).length c204_7, .string ((rd_T41 l0_0 x26_1).f5)] 41 (0, 0))) := ⟨h2_⟩
               replace BK209 : Aside0 (w52.heap[gb209]? = some (.cells #[.int .i64 t206, .int .i64 t207] 72 (0, 0))) := ⟨h3_⟩
               have BK214 : Aside0 (w52.heap[gb214]? = some (.cells #[.int .i64 0, .int .i64 0] 72 (0, 0))) := ⟨h4_⟩
               have GW214 : Aside0 (w.heap.size ≤ gb214) := ⟨h5_⟩
               have GE214 : Nonempty (w.heap.size ≤ gb214) := ⟨h6_⟩
               have NB198_214 : Aside0 (gb198 ≠ gb214) := ⟨h7_⟩
               have NB214_198 : Aside0 (gb214 ≠ gb198) := ⟨h8_⟩
               have NB205_214 : Aside0 (gb205 ≠ gb214) := ⟨h9_⟩
               have NB214_205 : Aside0 (gb214 ≠ gb205) := ⟨h10_⟩
               have NB209_214 : Aside0 (gb209 ≠ gb214) := ⟨h11_⟩
               have NB214_209 : Aside0 (gb214 ≠ gb209) := ⟨h12_⟩
               replace HB : Aside0 (Below w.heap.size w w52) := ⟨h13_⟩
               clear h0_ h1_ h2_ h3_ h4_ h5_ h6_ h7_ h8_ h9_ h10_ h11_ h12_ h13_
               have hHeld : w52.cell? ⟨gb209, 0, none⟩ = some (.int .i64 t206) ∧ w52.cell? ⟨gb209, 1, none⟩ = some (.int .i64 t207) ∧ w52.cell? (ad210.add ((x26_1).toNat * 2)) = some (.int .i64 ((rd_T72 x6_1 x26_1).f0)) ∧ w52.cell? ⟨(ad210.add ((x26_1).toNat * 2)).block, (ad210.add ((x26_1).toNat * 2)).off + 1, none⟩ = some (.int .i64 ((rd_T72 x6_1 x26_1).f1)) := hS_
               refine norm_ (a' := ?_) ?_ ?_
               rotate_left
               · simp only [putAll, Act.put, qa_, qz_, qs_]
                 rfl
               refine one_ (i := 10) (N := none) #[true, true, true, true, true, true, true, true, true, true, true, false] rfl rfl (one_of HT_.out (by kernel_rfl)) (by decide) (fun K hK => ?_)
               have hs53 : w52.cell? ⟨gb214, 0, none⟩ = some (.int .i64 0) := (blk_cell BK214.out 0).trans rfl
               have hfs53 := blk_frozen BK214.out 0
               have hns53_0 := NB198_214.out
               have hns53_1 := NB205_214.out
               have hns53_2 := NB209_214.out
               have hms53_0 := NB214_198.out
               have hms53_1 := NB214_205.out
               have hms53_2 := NB214_209.out
               have hs54 : w52.cell? ⟨gb214, 1, none⟩ = some (.int .i64 0) := (blk_cell BK214.out 1).trans rfl
               have hfs54 := blk_frozen BK214.out 1
               have hns54_0 := NB198_214.out
               have hns54_1 := NB205_214.out
               have hns54_2 := NB209_214.out
               have hms54_0 := NB214_198.out
               have hms54_1 := NB214_205.out
               have hms54_2 := NB214_209.out
               refine skip_ (w1 := ?_) (by rfl) rfl ?_ ?_
               rotate_left
               · go_simp
                 rfl
               refine hK.out _ _ ⟨((cell_far (p := ⟨gb214, _, none⟩) NB209_214.out _).trans (((cell_far (p := ⟨gb214, _, none⟩) NB209_214.out _).trans (hHeld.1)))), ((cell_far (p := ⟨gb214, _, none⟩) NB209_214.out _).trans (((cell_far (p := ⟨gb214, _, none⟩) NB209_214.out _).trans (hHeld.2.1)))), ((cell_far (p := ⟨gb214, _, none⟩) (by first | exact Kd.own_blk (Kd.R_away HO_6.out (fun _ hk => hk.2)) | (rw [add_block]; exact Kd.own_blk (Kd.R_away HO_6.out (fun _ hk => hk.2))) | (show (Addr.add _ _).block ≠ _; rw [add_block]; exact Kd.own_blk (Kd.R_away HO_6.out (fun _ hk => hk.2))) | (dsimp only; exact Kd.own_blk (Kd.R_away HO_6.out (fun _ hk => hk.2)))) _).trans (((cell_far (p := ⟨gb214, _, none⟩) (by first | exact Kd.own_blk (Kd.R_away HO_6.out (fun _ hk => hk.2)) | (rw [add_block]; exact Kd.own_blk (Kd.R_away HO_6.out (fun _ hk => hk.2))) | (show (Addr.add _ _).block ≠ _; rw [add_block]; exact Kd.own_blk (Kd.R_away HO_6.out (fun _ hk => hk.2))) | (dsimp only; exact Kd.own_blk (Kd.R_away HO_6.out (fun _ hk => hk.2)))) _).trans (hHeld.2.2.1)))), ((cell_far (p := ⟨gb214, _, none⟩) (by first | exact Kd.own_blk (Kd.R_away HO_6.out (fun _ hk => hk.2)) | (rw [add_block]; exact Kd.own_blk (Kd.R_away HO_6.out (fun _ hk => hk.2))) | (show (Addr.add _ _).block ≠ _; rw [add_block]; exact Kd.own_blk (Kd.R_away HO_6.out (fun _ hk => hk.2))) | (dsimp only; exact Kd.own_blk (Kd.R_away HO_6.out (fun _ hk => hk.2)))) _).trans (((cell_far (p := ⟨gb214, _, none⟩) (by first | exact Kd.own_blk (Kd.R_away HO_6.out (fun _ hk => hk.2)) | (rw [add_block]; exact Kd.own_blk (Kd.R_away HO_6.out (fun _ hk => hk.2))) | (show (Addr.add _ _).block ≠ _; rw [add_block]; exact Kd.own_blk (Kd.R_away HO_6.out (fun _ hk => hk.2))) | (dsimp only; exact Kd.own_blk (Kd.R_away HO_6.out (fun _ hk => hk.2)))) _).trans (hHeld.2.2.2))))⟩ (fun hHeld => ?_)
               clear hK K
               refine pure_ (i := 11) (N := some 12) (v := ?_) (a' := ?_) #[true, true, true, true, true, true, true, true, true, true, true, true] rfl rfl (any_of HT_.out (by kernel_rfl)) (fun _ _ _ h => h) (Or.inl ⟨by rfl, ?_⟩) ?_ ?_
               rotate_left
               · intro w'
                 go_simp
                 with_reducible rfl
               rotate_left
               · simp only [Act.put, qa_, qz_, qs_, i64_w, i32_w]
                 rfl
               refine done_ (done_of HT_.out (by kernel_rfl)) ?_
               try go_wp2
               go_ret2
               exact ⟨_, by first | rfl | (simp [errW_none, errW_some] <;> rfl) | (simp [*, errW_none, errW_some] <;> rfl), by first | exact Kd.R_nil _ _ _ _ _ | exact Kd.N_nil _ _ _ _ _ | exact Kd.V_nil _ _ _ _ _ | exact Kd.Q_nil _ _ _ _ _ | exact Kd.S_nil _ _ _ _ _, by exact qW HB.out⟩
           · rw [if_neg c14] at H
             exact absurd H (by simp)
         · rw [if_neg c12] at H
           exact absurd H (by simp)
       · rw [if_neg c11] at H
         exact absurd H (by simp)
     · rw [if_neg c10] at H
       have c10b0 : decide (x26_1 < (l0_0.length : Int)) = false := decide_eq_false c10
       clear c10
       simp only [Option.some.injEq, Prod.mk.injEq] at H
       obtain ⟨rfl, rfl⟩ := H
       go_wp2
       go_ret2
       exact ⟨_, by first | rfl | (simp [errW_none, errW_some] <;> rfl) | (simp [*, errW_none, errW_some] <;> rfl), by (with_reducible repeat (first | apply Kd.R_alloc | apply Kd.R_drewN | apply Kd.R_drew)); exact HO_6.out, by exact qW HB.out⟩
 · rw [if_neg c3] at H
   have c3b0 : (t200 == 0) = false := beq_eq_false_iff_ne.mpr c3
   have c3b1 : (t200 != 0) = true := bne_iff_ne.mpr c3
   simp only [Option.some.injEq, Prod.mk.injEq] at H
   obtain ⟨rfl, rfl⟩ := H
   go_enter Tryz.func40, Tryz.ntmps40
   go_wp2_with (first | ((with_reducible refine gate_dst (N := 1) rfl ?_); refine box_event ?hg (N := 1) ?hd (cs := #[.slice A0_0 l0_0.length c0_0]) (t := 32) ?hr ?_; (case hd => rfl); (case hg => rfl); (case hr => first | (go_simp; done) | (go_simp; rfl)); intro gb198 hg w55 hbox hb; have BK198 := Aside0.mk (hbox); have GW198 := qT HB hg; have GE198 := qS HB hg; replace HB := Aside0.mk (below_step (qW HB.out) hb); clear hb hbox hg; have hcz56_0 := qC BK198 0 rfl; have hfz56_0 := blk_frozen BK198.out 0) | ((with_reducible refine gate_callee (f := 59) rfl ?_); refine goesL_ (some 15) rfl rfl Tryz.func59 (by kernel_rfl) rfl #[.agg #[.slice A0_0 l0_0.length c0_0]] rfl (by (try simp only [List.map_toArray, List.map_cons, List.map_nil]); first | done | rfl | (simp only [List.length_drop, List.length_take]; rfl)) ?_; (with_reducible refine (voice_Check.calls _ _ l0_0 t199 t200 _ ?side1 ?side2 A2.out).mono ?_); (case side1 => repeat (first | exact (Kd.C_below HR0_0.out HB.out) | (with_reducible refine Kd.C_alloc ?_ _) | (with_reducible refine Kd.C_drewN ?_ _) | (with_reducible refine Kd.C_drew ?_))); (case side2 => exact HC0_0.out); rintro e w57 ⟨rfl, hb⟩; refine ⟨_, rfl, ?_⟩; replace BK198 := qD BK198 hb; replace HB := Aside0.mk (below_step (qW HB.out) hb); (try clear hb); (try clear hb2); (try clear hk); (try clear hi)))
   go_ret2
   exact ⟨_, by first | rfl | (simp [errW_none, errW_some] <;> rfl) | (simp [*, errW_none, errW_some] <;> rfl), by first | exact Kd.R_nil _ _ _ _ _ | exact Kd.N_nil _ _ _ _ _ | exact Kd.V_nil _ _ _ _ _ | exact Kd.Q_nil _ _ _ _ _ | exact Kd.S_nil _ _ _ _ _, by exact qW HB.out⟩

/-! ### api_Ratio: function 41 -/
/-- A copy of a list of ratios. -/
def api_Ratio.f (l0 : List S72) : Option (List S72) := if l0.length ≤ 1000000 then some l0 else none
theorem api_Ratio.calls (A0 : Option Addr) (c0 : Nat) (l0 : List S72) (r : List S72) (w : World) (hr0 : Kd.C k72 w A0 l0.length l0) (hc0 : l0.length ≤ c0) (h : api_Ratio.f l0 = some r) :
 Calls Tryz.prog 41 #[.slice A0 l0.length c0] w fun e w' => ∃ v0_ : Value, e = .returned v0_ ∧ Kd.R k72 72 w' w.heap.size (fun _ => True) v0_ r ∧ Below w.heap.size w w' := by
  unfold api_Ratio.f at h
  by_cases c : l0.length ≤ 1000000
  · rw [if_pos c] at h
    obtain rfl := Option.some.inj h
    exact clone_calls A0 c0 l0 w hr0 hc0 c
  · rw [if_neg c] at h; cases h

/-! ### voice_Starts: function 19 -/
def voice_Starts.f (k : Nat) (l0_0 : List (S41)) : Option ((List (S72)) × Int) := (voice_sums.f k l0_0).bind fun bt219 => (if bt219.2 = 0 then (if 0 ≤ (l0_0.length : Int) then (if (l0_0.length : Int) ≤ (bt219.1.length : Int) then ((api_Ratio.f (bt219.1.take ((l0_0.length : Int) : Int).toNat)).bind fun t227 => (some (t227, 0))) else (none)) else (none)) else (some (([] : List (S72)), bt219.2)))
theorem voice_Starts.mono : ∀ a0 k, LeO (voice_Starts.f k a0) (voice_Starts.f (k + 1) a0) := by
 intro a0 k
 unfold voice_Starts.f
 repeat' first
  | (with_reducible exact voice_sums.mono _ _)
  | (with_reducible exact LeO.refl _)
  | (with_reducible exact LeO.none _)
  | (with_reducible refine LeO.ite ?_ ?_)
  | (with_reducible refine LeO.bind ?_ (fun _ => ?_))
  | exact voice_sums.mono _ _
  | exact LeO.none _
  | refine LeO.ite ?_ ?_
  | refine LeO.bind ?_ (fun _ => ?_)
set_option maxHeartbeats 8000000 in
set_option maxRecDepth 100000 in
theorem voice_Starts.calls (k : Nat) (A0_0 : Option Addr) (c0_0 : Nat) (l0_0 : List (S41)) (r1 : List (S72)) (r2 : Int) (w : World) (hr0_0 : Kd.C k41 w A0_0 l0_0.length l0_0) (hc0_0 : l0_0.length ≤ c0_0) (h : voice_Starts.f k l0_0 = some (r1, r2)) (SENTS : Aside0 (SentsE w) := by exact sents_step (by assumption) (by repeat (first | (with_reducible first | exact (by assumption : Aside0 (Below _ _ _)).out | apply below_alloc | apply pw_below_drewN | apply below_drew1 | refine below_set ?_ (Aside0.out (by assumption)))))) :
 Calls Tryz.prog 19 #[.agg #[.slice A0_0 l0_0.length c0_0]] w fun e w' => ∃ v0_ : Value, e = .returned (.tuple #[v0_, .int .i64 r2]) ∧ Kd.R k72 72 w' w.heap.size (fun _ => True) v0_ r1 ∧ Below w.heap.size w w' := by
 have hu32 := Tryz.underlying32
 have HR0_0 := Aside0.mk hr0_0
 have HC0_0 := Aside0.mk hc0_0
 clear hr0_0 hc0_0
 have HB := Aside0.mk (Below.refl w.heap.size w)
 have H : ((voice_sums.f k l0_0).bind fun bt219 => (if bt219.2 = 0 then (if 0 ≤ (l0_0.length : Int) then (if (l0_0.length : Int) ≤ (bt219.1.length : Int) then ((api_Ratio.f (bt219.1.take ((l0_0.length : Int) : Int).toNat)).bind fun t227 => (some (t227, 0))) else (none)) else (none)) else (some (([] : List (S72)), bt219.2)))) = some (r1, r2) := h
 clear h
 replace H := Option.bind_eq_some_iff.mp H
 obtain ⟨⟨t219, t222⟩, A20, H⟩ := H
 replace H : (if t222 = 0 then (if 0 ≤ (l0_0.length : Int) then (if (l0_0.length : Int) ≤ (t219.length : Int) then ((api_Ratio.f (t219.take ((l0_0.length : Int) : Int).toNat)).bind fun t227 => (some (t227, 0))) else (none)) else (none)) else (some (([] : List (S72)), t222))) = some (r1, r2) := H
 have A2 := Aside0.mk A20
 clear A20
 by_cases c3 : t222 = 0
 · rw [if_pos c3] at H
   have c3b0 : (t222 == 0) = true := beq_iff_eq.mpr c3
   have c3b1 : (t222 != 0) = false := bne_eq_false_iff_eq.mpr c3
   clear c3
   by_cases c4 : 0 ≤ (l0_0.length : Int)
   · rw [if_pos c4] at H
     have c4b0 := eq_true c4
     have c4b1 : decide (0 ≤ (l0_0.length : Int)) = true := decide_eq_true c4
     clear c4
     by_cases c5 : (l0_0.length : Int) ≤ (t219.length : Int)
     · rw [if_pos c5] at H
       have c5b0 := eq_true c5
       have c5b1 : decide ((l0_0.length : Int) ≤ (t219.length : Int)) = true := decide_eq_true c5
       clear c5
       obtain ⟨y223, hy223⟩ : ∃ y_ : List (S72), y_ = (t219.take ((l0_0.length : Int) : Int).toNat) := ⟨_, rfl⟩
       replace H : ((api_Ratio.f y223).bind fun t227 => (some (t227, 0))) = some (r1, r2) := by first | (rw [hy223]; with_reducible exact H) | (have H2_ := (Option.bind_some _ _).symm.trans H; rw [hy223]; with_reducible exact H2_) | (have H2_ := (Option.bind_some _ _).symm.trans H; with_reducible exact H2_) | with_reducible exact H | (rw [hy223]; exact H) | exact H
       have Ny223 := Aside0.mk hy223
       clear hy223
       replace H := Option.bind_eq_some_iff.mp H
       obtain ⟨t227, A60, H⟩ := H
       replace H : (some (t227, 0)) = some (r1, r2) := H
       have A6 := Aside0.mk A60
       clear A60
       simp only [Option.some.injEq, Prod.mk.injEq] at H
       obtain ⟨rfl, rfl⟩ := H
       go_enter Tryz.func19, Tryz.ntmps19
       go_wp2_with (first | ((with_reducible refine gate_dst (N := 1) rfl ?_); refine box_event ?hg (N := 1) ?hd (cs := #[.slice A0_0 l0_0.length c0_0]) (t := 32) ?hr ?_; (case hd => rfl); (case hg => rfl); (case hr => first | (go_simp; done) | (go_simp; rfl)); intro gb218 hg w7 hbox hb; have n0_ := Aside0.mk (below_step (by repeat (first | (with_reducible first | exact HB.out | apply below_alloc | apply pw_below_drewN | apply below_drew1) | exact HB.out)) hb); have n1_ := Aside0.mk (hbox); have n2_ := Aside0.mk ((by rw [hg]; exact (below_size (by repeat (first | (with_reducible first | exact HB.out | apply below_alloc | apply pw_below_drewN | apply below_drew1) | exact HB.out))) : w.heap.size ≤ gb218)); have n3_ := Aside0.mk ((by rw [hg]; exact (below_size (by repeat (first | (with_reducible first | exact HB.out | apply below_alloc | apply pw_below_drewN | apply below_drew1) | exact HB.out))) : w.heap.size ≤ gb218)); clear HB; have HB := n0_; have BK218 := n1_; have GW218 := n2_; have GE218 := n3_; clear n0_ n1_ n2_ n3_; clear hb hbox hg; have hcz8_0 : w7.cell? ⟨gb218, 0, none⟩ = some (.slice A0_0 l0_0.length c0_0) := (blk_cell BK218.out 0).trans rfl; have hfz8_0 := blk_frozen BK218.out 0) | ((with_reducible refine gate_callee (f := 40) rfl ?_); refine goesL_ (some 8) rfl rfl Tryz.func40 (by kernel_rfl) rfl #[.agg #[.slice A0_0 l0_0.length c0_0]] rfl (by (try simp only [List.map_toArray, List.map_cons, List.map_nil]); first | done | rfl | (simp only [List.length_drop, List.length_take]; rfl)) ?_; (with_reducible refine (voice_sums.calls k _ _ l0_0 t219 t222 _ ?side1 ?side2 A2.out).mono ?_); (case side1 => repeat (first | exact (Kd.C_below HR0_0.out HB.out) | (with_reducible refine Kd.C_alloc ?_ _) | (with_reducible refine Kd.C_drewN ?_ _) | (with_reducible refine Kd.C_drew ?_))); (case side2 => exact HC0_0.out); rintro e w9 ⟨v220, rfl, ho0, hb⟩; refine ⟨_, rfl, ?_⟩; have n0_ := Aside0.mk (Kd.R_lower ho0 (below_size (by repeat (first | (with_reducible first | exact HB.out | apply below_alloc | apply pw_below_drewN | apply below_drew1 | refine below_set ?_ GE218.out) | exact HB.out)))); have n1_ := Aside0.mk (blk_below (qB BK218.out) hb); have n2_ := Aside0.mk (below_step (by repeat (first | (with_reducible first | exact HB.out | apply below_alloc | apply pw_below_drewN | apply below_drew1 | refine below_set ?_ GE218.out) | exact HB.out)) hb); clear BK218; clear HB; have HO221 := n0_; have BK218 := n1_; have HB := n2_; clear n0_ n1_ n2_; (try clear hb); (try clear hb2); (try clear hk); (try clear hi); (try clear ho0); have hcz10_0 : w9.cell? ⟨gb218, 0, none⟩ = some (.slice A0_0 l0_0.length c0_0) := (blk_cell BK218.out 0).trans rfl; have hfz10_0 := blk_frozen BK218.out 0; obtain ⟨Ao12, co12, eo12⟩ := Kd.R_slice HO221.out; subst eo12; have q11 : ((l0_0.length : Int) : Int) ≤ ((t219.length : Int) : Int) := of_decide_eq_true (by first | (with_reducible assumption) | assumption); obtain ⟨i011, hi011, _, hsz11, _⟩ := info_parts info72; have hroom11 : t219.length ≤ co12 := (Kd.R_reads' HO221.out).2.1; have hC11 : Kd.C k72 _ Ao12 t219.length t219 := (Kd.R_reads' HO221.out).2.2; have hcut11 := cut_to (P := Tryz.prog) 50 72 .i64 Tryz.underlying50 hi011 Ao12 t219.length co12 (l0_0.length : Int) (of_decide_eq_true (by first | (with_reducible assumption) | assumption)) q11 hroom11; have hr11 := Kd.C_take (m := ((l0_0.length : Int) : Int).toNat) hC11 (by omega); have hy11 : y223.length = ((l0_0.length : Int) : Int).toNat := (by rw [Ny223.out, List.length_take]; omega); rw [← Ny223.out] at hr11; rw [← hy11] at hcut11; have HR226 := Aside0.mk hr11; have HC226 := Aside0.mk (show y223.length ≤ co12 from by omega); clear hr11 hC11 hroom11 hi011 hsz11; have KY11 := Aside0.mk hy11; clear hy11; have KL11 := Aside0.mk (show ((l0_0.length : Int) : Int).toNat ≤ t219.length from by omega); replace q11 := eq_true q11) | ((with_reducible refine gate_callee (f := 41) rfl ?_); refine goesL_ (some 19) rfl rfl Tryz.func41 (by kernel_rfl) rfl #[.slice Ao12 y223.length co12] rfl (by (try simp only [List.map_toArray, List.map_cons, List.map_nil]); first | done | rfl | (simp only [List.length_drop, List.length_take]; rfl)) ?_; (with_reducible refine (api_Ratio.calls _ _ y223 t227 _ ?side1 ?side2 A6.out).mono ?_); (case side1 => repeat (first | exact (by repeat (first | (with_reducible exact HR226.out) | (with_reducible refine Kd.C_alloc ?_ _) | (with_reducible refine Kd.C_drewN ?_ _) | (with_reducible refine Kd.C_drew ?_) | exact HR226.out)) | (with_reducible refine Kd.C_alloc ?_ _) | (with_reducible refine Kd.C_drewN ?_ _) | (with_reducible refine Kd.C_drew ?_))); (case side2 => exact HC226.out); rintro e w13 ⟨v228, rfl, ho0, hb⟩; refine ⟨_, rfl, ?_⟩; have n0_ := Aside0.mk (Kd.R_elder' (qR HO221.out) (Kd.R_base ho0) hb); have n1_ := Aside0.mk (Kd.R_lower (Kd.R_new' ho0 (Kd.R_lt (qR HO221.out))) (below_size (by repeat (first | (with_reducible first | exact HB.out | apply below_alloc | apply pw_below_drewN | apply below_drew1 | refine below_set ?_ GE218.out) | exact HB.out)))); have n2_ := Aside0.mk (blk_below (qB BK218.out) hb); have n3_ := Aside0.mk (Kd.C_below (by repeat (first | (with_reducible exact HR226.out) | (with_reducible refine Kd.C_alloc ?_ _) | (with_reducible refine Kd.C_drewN ?_ _) | (with_reducible refine Kd.C_drew ?_) | exact HR226.out)) hb); have n4_ := Aside0.mk (below_step (by repeat (first | (with_reducible first | exact HB.out | apply below_alloc | apply pw_below_drewN | apply below_drew1 | refine below_set ?_ GE218.out) | exact HB.out)) hb); clear HO221; clear BK218; clear HR226; clear HB; have HO221 := n0_; have HO229 := n1_; have BK218 := n2_; have HR226 := n3_; have HB := n4_; clear n0_ n1_ n2_ n3_ n4_; (try clear hb); (try clear hb2); (try clear hk); (try clear hi); (try clear ho0)))
       go_ret2
       exact ⟨_, by first | rfl | (simp [errW_none, errW_some] <;> rfl) | (simp [*, errW_none, errW_some] <;> rfl), by (with_reducible repeat (first | apply Kd.R_alloc | apply Kd.R_drewN | apply Kd.R_drew)); exact Kd.R_mono HO229.out (fun _ hk => trivial), by repeat (first | (with_reducible first | exact HB.out | apply below_alloc | apply pw_below_drewN | apply below_drew1 | refine below_set ?_ GE218.out) | exact HB.out)⟩
     · rw [if_neg c5] at H
       exact absurd H (by simp)
   · rw [if_neg c4] at H
     exact absurd H (by simp)
 · rw [if_neg c3] at H
   have c3b0 : (t222 == 0) = false := beq_eq_false_iff_ne.mpr c3
   have c3b1 : (t222 != 0) = true := bne_iff_ne.mpr c3
   simp only [Option.some.injEq, Prod.mk.injEq] at H
   obtain ⟨rfl, rfl⟩ := H
   go_enter Tryz.func19, Tryz.ntmps19
   go_wp2_with (first | ((with_reducible refine gate_dst (N := 1) rfl ?_); refine box_event ?hg (N := 1) ?hd (cs := #[.slice A0_0 l0_0.length c0_0]) (t := 32) ?hr ?_; (case hd => rfl); (case hg => rfl); (case hr => first | (go_simp; done) | (go_simp; rfl)); intro gb218 hg w14 hbox hb; have n0_ := Aside0.mk (below_step (by repeat (first | (with_reducible first | exact HB.out | apply below_alloc | apply pw_below_drewN | apply below_drew1) | exact HB.out)) hb); have n1_ := Aside0.mk (hbox); have n2_ := Aside0.mk ((by rw [hg]; exact (below_size (by repeat (first | (with_reducible first | exact HB.out | apply below_alloc | apply pw_below_drewN | apply below_drew1) | exact HB.out))) : w.heap.size ≤ gb218)); have n3_ := Aside0.mk ((by rw [hg]; exact (below_size (by repeat (first | (with_reducible first | exact HB.out | apply below_alloc | apply pw_below_drewN | apply below_drew1) | exact HB.out))) : w.heap.size ≤ gb218)); clear HB; have HB := n0_; have BK218 := n1_; have GW218 := n2_; have GE218 := n3_; clear n0_ n1_ n2_ n3_; clear hb hbox hg; have hcz15_0 : w14.cell? ⟨gb218, 0, none⟩ = some (.slice A0_0 l0_0.length c0_0) := (blk_cell BK218.out 0).trans rfl; have hfz15_0 := blk_frozen BK218.out 0) | ((with_reducible refine gate_callee (f := 40) rfl ?_); refine goesL_ (some 8) rfl rfl Tryz.func40 (by kernel_rfl) rfl #[.agg #[.slice A0_0 l0_0.length c0_0]] rfl (by (try simp only [List.map_toArray, List.map_cons, List.map_nil]); first | done | rfl | (simp only [List.length_drop, List.length_take]; rfl)) ?_; (with_reducible refine (voice_sums.calls k _ _ l0_0 t219 t222 _ ?side1 ?side2 A2.out).mono ?_); (case side1 => repeat (first | exact (Kd.C_below HR0_0.out HB.out) | (with_reducible refine Kd.C_alloc ?_ _) | (with_reducible refine Kd.C_drewN ?_ _) | (with_reducible refine Kd.C_drew ?_))); (case side2 => exact HC0_0.out); rintro e w16 ⟨v220, rfl, ho0, hb⟩; refine ⟨_, rfl, ?_⟩; have n0_ := Aside0.mk (Kd.R_lower ho0 (below_size (by repeat (first | (with_reducible first | exact HB.out | apply below_alloc | apply pw_below_drewN | apply below_drew1 | refine below_set ?_ GE218.out) | exact HB.out)))); have n1_ := Aside0.mk (blk_below (qB BK218.out) hb); have n2_ := Aside0.mk (below_step (by repeat (first | (with_reducible first | exact HB.out | apply below_alloc | apply pw_below_drewN | apply below_drew1 | refine below_set ?_ GE218.out) | exact HB.out)) hb); clear BK218; clear HB; have HO221 := n0_; have BK218 := n1_; have HB := n2_; clear n0_ n1_ n2_; (try clear hb); (try clear hb2); (try clear hk); (try clear hi); (try clear ho0)))
   go_ret2
   exact ⟨_, by first | rfl | (simp [errW_none, errW_some] <;> rfl) | (simp [*, errW_none, errW_some] <;> rfl), by first | exact Kd.R_nil _ _ _ _ _ | exact Kd.N_nil _ _ _ _ _ | exact Kd.V_nil _ _ _ _ _ | exact Kd.Q_nil _ _ _ _ _ | exact Kd.S_nil _ _ _ _ _, by repeat (first | (with_reducible first | exact HB.out | apply below_alloc | apply pw_below_drewN | apply below_drew1 | refine below_set ?_ GE218.out) | exact HB.out)⟩

end Go.Proofs.YtocjbedacnlaaaaGreatDoor.Q
