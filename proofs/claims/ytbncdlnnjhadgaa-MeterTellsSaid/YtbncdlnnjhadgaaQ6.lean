-- Written by a program of this session (myprint.py), function by function.
import Derived.Test.YtbncdlnnjhadgaaQ0
import Derived.Test.YtbncdlnnjhadgaaQ5
namespace Go.Proofs.Ytbncdlnnjhadgaa.Q
open Go.RowKit Go.Proofs.YtbncdlnnjhadgaaW.PrintWords Go.Proofs.YtbncdlnnjhadgaaW.PrintLast Go.Proofs.YtbncdlnnjhadgaaW.PrintMore
attribute [local go_sem] max2_int min2_int max_two min_two max_three min_three max_four min_four   -- for this text's walks alone
set_option linter.unusedVariables false
set_option linter.unusedSimpArgs false

/-! ### partitalaw05_Meter: function 11 -/
mutual
def partitalaw05_Meter.l0 : Nat → Bool → Int → Int → Int → Int → List Int → Int → Int → List Int → Option (Int × Int × List Int)
 | 0, _, _, _, _, _, _, _, _, _ => none
 | k + 1, x1, x6, x7, x132000, x132001, x132002, x136000, x136001, x136002 => if x6 > 0 then (partitalaw05_Meter.j1 k x1 x6 x7 x1 x132000 x132001 x132002 x136000 x136001 x136002) else (partitalaw05_Meter.j1 k x1 x6 x7 false x132000 x132001 x132002 x136000 x136001 x136002)
def partitalaw05_Meter.j1 : Nat → Bool → Int → Int → Bool → Int → Int → List Int → Int → Int → List Int → Option (Int × Int × List Int)
 | 0, _, _, _, _, _, _, _, _, _, _ => none
 | k + 1, x1, x6, x7, x24, x132000, x132001, x132002, x136000, x136001, x136002 => if x24 = true then (if x7 < (x132002.length : Int) then (if 0 ≤ x7 then ((partitalaw05_pick.f (rd x132002 x7) 5).bind fun t137 => (if x136002.length < 17592186044416 then (partitalaw05_Meter.l0 k x1 (wrap64 (x6 - (mn (wrap64 (1 + t137)) x6))) (wrap64 (x7 + 1)) x132000 x132001 x132002 x136000 x136001 (x136002 ++ [mn (wrap64 (1 + t137)) x6])) else (none))) else (none)) else (if x136002.length < 17592186044416 then (partitalaw05_Meter.l0 k x1 (wrap64 (x6 - x6)) (wrap64 (x7 + 1)) x132000 x132001 x132002 x136000 x136001 (x136002 ++ [x6])) else (none))) else (some (x136000, x136001, x136002))
end
def partitalaw05_Meter.f (k : Nat) (a0_0 : Int) (a0_1 : Int) (l0_2 : List Int) (a1 : Bool) : Option (Int × Int × List Int) := (partitalaw05_pick.f a0_0 32).bind fun t133 => ((partitalaw05_pick.f a0_1 7).bind fun t134 => (if 0 ≤ t134 then (partitalaw05_Meter.l0 k a1 (wrap64 (1 + t133)) 0 a0_0 a0_1 l0_2 (wrap64 (1 + t133)) (shl .i64 1 t134) ([] : List Int)) else (none)))
theorem partitalaw05_Meter.mono_l : ∀ k, (∀ y0 y1 y2 y3 y4 y5 y6 y7 y8, LeO (partitalaw05_Meter.l0 k y0 y1 y2 y3 y4 y5 y6 y7 y8) (partitalaw05_Meter.l0 (k + 1) y0 y1 y2 y3 y4 y5 y6 y7 y8)) ∧ (∀ y0 y1 y2 y3 y4 y5 y6 y7 y8 y9, LeO (partitalaw05_Meter.j1 k y0 y1 y2 y3 y4 y5 y6 y7 y8 y9) (partitalaw05_Meter.j1 (k + 1) y0 y1 y2 y3 y4 y5 y6 y7 y8 y9))
 | 0 => ⟨fun _ _ _ _ _ _ _ _ _ r h => by simp [partitalaw05_Meter.l0] at h, fun _ _ _ _ _ _ _ _ _ _ r h => by simp [partitalaw05_Meter.j1] at h⟩
 | k + 1 => by
  obtain ⟨ih0, ih1⟩ := partitalaw05_Meter.mono_l k
  refine ⟨?_, ?_⟩
  · intro y0 y1 y2 y3 y4 y5 y6 y7 y8
    unfold partitalaw05_Meter.l0
    repeat' first
    | (with_reducible exact ih0 _ _ _ _ _ _ _ _ _)
    | (with_reducible exact ih1 _ _ _ _ _ _ _ _ _ _)
    | (with_reducible exact LeO.refl _)
    | (with_reducible exact LeO.none _)
    | (with_reducible refine LeO.ite ?_ ?_)
    | (with_reducible refine LeO.bind ?_ (fun _ => ?_))
    | exact ih0 _ _ _ _ _ _ _ _ _
    | exact ih1 _ _ _ _ _ _ _ _ _ _
    | exact LeO.none _
    | refine LeO.ite ?_ ?_
    | refine LeO.bind ?_ (fun _ => ?_)
  · intro y0 y1 y2 y3 y4 y5 y6 y7 y8 y9
    unfold partitalaw05_Meter.j1
    repeat' first
    | (with_reducible exact ih0 _ _ _ _ _ _ _ _ _)
    | (with_reducible exact ih1 _ _ _ _ _ _ _ _ _ _)
    | (with_reducible exact LeO.refl _)
    | (with_reducible exact LeO.none _)
    | (with_reducible refine LeO.ite ?_ ?_)
    | (with_reducible refine LeO.bind ?_ (fun _ => ?_))
    | exact ih0 _ _ _ _ _ _ _ _ _
    | exact ih1 _ _ _ _ _ _ _ _ _ _
    | exact LeO.none _
    | refine LeO.ite ?_ ?_
    | refine LeO.bind ?_ (fun _ => ?_)
theorem partitalaw05_Meter.mono : ∀ a0 a1 a2 a3 k, LeO (partitalaw05_Meter.f k a0 a1 a2 a3) (partitalaw05_Meter.f (k + 1) a0 a1 a2 a3) := by
 intro a0 a1 a2 a3 k
 obtain ⟨ih0, ih1⟩ := partitalaw05_Meter.mono_l k
 unfold partitalaw05_Meter.f
 repeat' first
  | (with_reducible exact ih0 _ _ _ _ _ _ _ _ _)
  | (with_reducible exact ih1 _ _ _ _ _ _ _ _ _ _)
  | (with_reducible exact LeO.refl _)
  | (with_reducible exact LeO.none _)
  | (with_reducible refine LeO.ite ?_ ?_)
  | (with_reducible refine LeO.bind ?_ (fun _ => ?_))
  | exact ih0 _ _ _ _ _ _ _ _ _
  | exact ih1 _ _ _ _ _ _ _ _ _ _
  | exact LeO.none _
  | refine LeO.ite ?_ ?_
  | refine LeO.bind ?_ (fun _ => ?_)
def partitalaw05_Meter.T1 : Bool × List (List Nat × List Nat) := (true, [([], []), ([0], [0]), ([1], [1]), ([2], [2]), ([], []), ([4], [4]), ([5, 2], [5]), ([6], [6]), ([3, 7], [3, 7]), ([], []), ([9, 8, 6, 0, 1, 2, 3, 4, 5, 6, 7, 8, 9], [8, 9])])
def partitalaw05_Meter.B1 : List Nat := [0, 1, 3, 7, 0, 16, 55, 119, 255, 0, 1023]
theorem partitalaw05_Meter.tab1 : rtab .any (opsOf Try.f11 1) = partitalaw05_Meter.T1 := by kernel_rfl
theorem partitalaw05_Meter.bits1 : waitsOk partitalaw05_Meter.T1.2 partitalaw05_Meter.B1 = true := by kernel_rfl
set_option maxHeartbeats 8000000 in
set_option maxRecDepth 100000 in
theorem partitalaw05_Meter.calls (k : Nat) (a0_0 : Int) (a0_1 : Int) (A0_2 : Option Addr) (c0_2 : Nat) (l0_2 : List Int) (a1 : Bool) (r1 : Int) (r2 : Int) (r3 : List Int) (w : World) (hr0_2 : Kd.C (Kd.int .i64) w A0_2 l0_2.length l0_2) (hc0_2 : l0_2.length ≤ c0_2) (h : partitalaw05_Meter.f k a0_0 a0_1 l0_2 a1 = some (r1, r2, r3)) :
 Calls Try.prog 11 #[.agg #[.int .i64 a0_0, .int .i64 a0_1, .slice A0_2 l0_2.length c0_2], .bool a1] w fun e w' => ∃ v2_ : Value, e = .returned (.agg #[.int .i64 r1, .int .i64 r2, v2_]) ∧ Kd.R (Kd.int .i64) 3 w' w.heap.size (fun _ => True) v2_ r3 ∧ Below w.heap.size w w' := by
 have hu24 := Try.underlying24
 have HR0_2 := Aside0.mk hr0_2
 have HC0_2 := Aside0.mk hc0_2
 clear hr0_2 hc0_2
 have HB := Aside0.mk (Below.refl w.heap.size w)
 have H : ((partitalaw05_pick.f a0_0 32).bind fun t133 => ((partitalaw05_pick.f a0_1 7).bind fun t134 => (if 0 ≤ t134 then (partitalaw05_Meter.l0 k a1 (wrap64 (1 + t133)) 0 a0_0 a0_1 l0_2 (wrap64 (1 + t133)) (shl .i64 1 t134) ([] : List Int)) else (none)))) = some (r1, r2, r3) := h
 clear h
 replace H := Option.bind_eq_some_iff.mp H
 obtain ⟨t133, A30, H⟩ := H
 replace H : ((partitalaw05_pick.f a0_1 7).bind fun t134 => (if 0 ≤ t134 then (partitalaw05_Meter.l0 k a1 (wrap64 (1 + t133)) 0 a0_0 a0_1 l0_2 (wrap64 (1 + t133)) (shl .i64 1 t134) ([] : List Int)) else (none))) = some (r1, r2, r3) := H
 have A3 := Aside0.mk A30
 clear A30
 replace H := Option.bind_eq_some_iff.mp H
 obtain ⟨t134, A40, H⟩ := H
 replace H : (if 0 ≤ t134 then (partitalaw05_Meter.l0 k a1 (wrap64 (1 + t133)) 0 a0_0 a0_1 l0_2 (wrap64 (1 + t133)) (shl .i64 1 t134) ([] : List Int)) else (none)) = some (r1, r2, r3) := H
 have A4 := Aside0.mk A40
 clear A40
 by_cases c5 : 0 ≤ t134
 · rw [if_pos c5] at H
   have c5b0 := eq_true c5
   have c5b1 : decide (0 ≤ t134) = true := decide_eq_true c5
   clear c5
   obtain ⟨ji6, hji6⟩ : ∃ j_ : Int, (shl .i64 1 t134) = j_ := ⟨_, rfl⟩
   replace H : (partitalaw05_Meter.l0 k a1 (wrap64 (1 + t133)) 0 a0_0 a0_1 l0_2 (wrap64 (1 + t133)) ji6 ([] : List Int)) = some (r1, r2, r3) := by first | (rw [hji6] at H; exact H) | (simp only [hji6] at H ⊢; exact H)
   (try rw [hji6] at A3)
   (try rw [hji6] at A4)
   have hji6_ : (IntKind.i64.wrap (1 * 2 ^ min t134.toNat 64)) = ji6 := hji6
   have hji6z : t134 ≤ 64 → (IntKind.i64.wrap (1 * 2 ^ t134.toNat)) = ji6 := shl_small hji6
   have hji6u : (IntKind.i64.wrap (2 ^ min t134.toNat 64)) = ji6 := by have h_ := hji6_; rw [Int.one_mul] at h_; exact h_
   have hji6v : t134 ≤ 64 → (IntKind.i64.wrap (2 ^ t134.toNat)) = ji6 := fun hle_ => by have h_ := hji6z hle_; rw [Int.one_mul] at h_; exact h_
   have hji6y : (wrap64 (1 * 2 ^ min t134.toNat 64)) = ji6 := (i64_w _).symm.trans hji6_
   have hji6x : t134 ≤ 64 → (wrap64 (1 * 2 ^ t134.toNat)) = ji6 := fun h_ => (i64_w _).symm.trans (hji6z h_)
   have H' := Aside0.mk H
   clear H
   go_enter Try.func11, Try.ntmps11
   try go_wp2_with (first | ((with_reducible refine gate_dst (N := 2) rfl ?_); refine box_event ?hg (N := 2) ?hd (cs := #[.int .i64 a0_0, .int .i64 a0_1, .slice A0_2 l0_2.length c0_2]) (t := 24) ?hr ?_; (case hd => rfl); (case hg => rfl); (case hr => first | (go_simp; done) | (go_simp; rfl)); intro gb131 hg w7 hbox hb; have n0_ := Aside0.mk (below_step (by repeat (first | (with_reducible first | exact HB.out | apply below_alloc | apply pw_below_drewN | apply below_drew1) | exact HB.out)) hb); have n1_ := Aside0.mk (hbox); have n2_ := Aside0.mk ((by rw [hg]; exact (below_size (by repeat (first | (with_reducible first | exact HB.out | apply below_alloc | apply pw_below_drewN | apply below_drew1) | exact HB.out))) : w.heap.size ≤ gb131)); have n3_ := Aside0.mk ((by rw [hg]; exact (below_size (by repeat (first | (with_reducible first | exact HB.out | apply below_alloc | apply pw_below_drewN | apply below_drew1) | exact HB.out))) : w.heap.size ≤ gb131)); clear HB; have HB := n0_; have BK131 := n1_; have GW131 := n2_; have GE131 := n3_; clear n0_ n1_ n2_ n3_; clear hb hbox hg) | ((with_reducible refine gate_dst (N := 4) rfl ?_); refine box_event ?hg (N := 4) ?hd (cs := #[.int .i64 0, .int .i64 0, .slice none 0 0]) (t := 24) ?hr ?_; (case hd => rfl); (case hg => rfl); (case hr => first | (go_simp; done) | (go_simp; rfl)); intro gb132 hg w8 hbox hb; have n0_ := Aside0.mk (blk_below (qB BK131.out) hb); have n1_ := Aside0.mk (below_step (by repeat (first | (with_reducible first | exact HB.out | apply below_alloc | apply pw_below_drewN | apply below_drew1 | refine below_set ?_ GE131.out) | exact HB.out)) hb); have n2_ := Aside0.mk (hbox); have n3_ := Aside0.mk ((by rw [hg]; exact (below_size (by repeat (first | (with_reducible first | exact HB.out | apply below_alloc | apply pw_below_drewN | apply below_drew1 | refine below_set ?_ GE131.out) | exact HB.out))) : w.heap.size ≤ gb132)); have n4_ := Aside0.mk ((by rw [hg]; exact (below_size (by repeat (first | (with_reducible first | exact HB.out | apply below_alloc | apply pw_below_drewN | apply below_drew1 | refine below_set ?_ GE131.out) | exact HB.out))) : w.heap.size ≤ gb132)); have n5_ := Aside0.mk ((by rw [hg]; exact Nat.ne_of_lt (blk_lt (qB BK131.out)) : gb131 ≠ gb132)); have n6_ := Aside0.mk ((by rw [hg]; exact Nat.ne_of_gt (blk_lt (qB BK131.out)) : gb132 ≠ gb131)); clear BK131; clear HB; have BK131 := n0_; have HB := n1_; have BK132 := n2_; have GW132 := n3_; have GE132 := n4_; have NB131_132 := n5_; have NB132_131 := n6_; clear n0_ n1_ n2_ n3_ n4_ n5_ n6_; clear hb hbox hg))
   have n0_ := Aside0.mk (blk_drew BK131.out)
   have n1_ := Aside0.mk (blk_drew BK132.out)
   have n2_ := Aside0.mk (below_drew1 HB.out)
   clear BK131
   clear BK132
   clear HB
   have BK131 := n0_
   have BK132 := n1_
   have HB := n2_
   clear n0_ n1_ n2_
   refine start_ (n := 11) (S := fun w' => w'.cell? ⟨gb131, 0, none⟩ = some (.int .i64 a0_0) ∧ w'.cell? ⟨gb131, 1, none⟩ = some (.int .i64 a0_1) ∧ w'.cell? ⟨gb131, 2, none⟩ = some (.slice A0_2 l0_2.length c0_2)) (ds := []) #[false, false, false, false, false, false, false, false, false, false, false] (by kernel_rfl) rfl rfl ⟨(blk_cell BK131.out 0).trans rfl, (blk_cell BK131.out 1).trans rfl, (blk_cell BK131.out 2).trans rfl⟩ (fun hHeld => ?_); refine with_tabW partitalaw05_Meter.tab1 partitalaw05_Meter.bits1 (fun HT_ HW_ => ?_)
   generalize w8.drew = w9 at BK131 BK132 HB hHeld ⊢
   refine pure_ (i := 0) (N := some 9) (v := ?_) (a' := ?_) #[true, false, false, false, false, false, false, false, false, false, false] rfl rfl (any_of HT_.out (by kernel_rfl)) (fun _ _ _ h => h) (Or.inl ⟨by rfl, ?_⟩) ?_ ?_
   rotate_left
   · intro w'
     go_simp
     with_reducible rfl
   rotate_left
   · simp only [Act.put, qa_, qz_, qs_, i64_w, i32_w]
     rfl
   refine pure_ (i := 4) (N := some 13) (v := ?_) (a' := ?_) #[true, false, false, false, true, false, false, false, false, false, false] rfl rfl (any_of HT_.out (by kernel_rfl)) (fun _ _ _ h => h) (Or.inl ⟨by rfl, ?_⟩) ?_ ?_
   rotate_left
   · intro w'
     go_simp
     with_reducible rfl
   rotate_left
   · simp only [Act.put, qa_, qz_, qs_, i64_w, i32_w]
     rfl
   refine take_ (i := 1) (N := some 10) (v := ?_) (a' := ?_) #[true, true, false, false, true, false, false, false, false, false, false] rfl rfl (take_ofW HT_.out HW_.out (by kernel_rfl)) (fun _ _ _ h => h) (Or.inl ⟨by rfl, ?_⟩) hHeld ?_ ?_
   rotate_left
   · rintro w' ⟨s0, s1, s2⟩
     go_simp
     with_reducible rfl
   rotate_left
   · simp only [Act.put, qa_, qz_, qs_, i64_w, i32_w]
     rfl
   refine take_ (i := 5) (N := some 14) (v := ?_) (a' := ?_) #[true, true, false, false, true, true, false, false, false, false, false] rfl rfl (take_ofW HT_.out HW_.out (by kernel_rfl)) (fun _ _ _ h => h) (Or.inl ⟨by rfl, ?_⟩) hHeld ?_ ?_
   rotate_left
   · rintro w' ⟨s0, s1, s2⟩
     go_simp
     with_reducible rfl
   rotate_left
   · simp only [Act.put, qa_, qz_, qs_, i64_w, i32_w]
     rfl
   refine join_ (σ := Nat) 1 #[true, true, true, true, true, true, true, true, true, true, false] (fun s_ => [(11, .int .i64 t133), (15, .int .i64 t134), (5, .pointer (some ⟨s_, 0, none⟩)), (12, .int .i64 (wrap64 (1 + t133))), (16, .int .i64 ji6), (17, .agg #[.int .i64 (wrap64 (1 + t133)), .int .i64 ji6, .slice none 0 0])]) (fun s_ w' => (w'.cell? ⟨gb131, 0, none⟩ = some (.int .i64 a0_0) ∧ w'.cell? ⟨gb131, 1, none⟩ = some (.int .i64 a0_1) ∧ w'.cell? ⟨gb131, 2, none⟩ = some (.slice A0_2 l0_2.length c0_2)) ∧ (w'.heap[gb131]? = some (.cells #[.int .i64 a0_0, .int .i64 a0_1, .slice A0_2 l0_2.length c0_2] 24 (0, 0))) ∧ (w'.heap[gb132]? = some (.cells #[.int .i64 0, .int .i64 0, .slice none 0 0] 24 (0, 0))) ∧ (w'.heap[s_]? = some (.cells #[.int .i64 0, .int .i64 0, .slice none 0 0] 24 (0, 0))) ∧ (w.heap.size ≤ s_) ∧ (w.heap.size ≤ s_) ∧ (gb131 ≠ s_) ∧ (s_ ≠ gb131) ∧ (gb132 ≠ s_) ∧ (s_ ≠ gb132) ∧ (Below w.heap.size w w')) ?_ ?_
   rotate_left
   · intro hCont
     refine two_ (i := 2) (j := 9) (Ni := some 11) (Nj := some 5) #[true, true, true, false, true, true, false, false, false, false, false] #[true, true, false, false, true, true, false, false, false, true, false] rfl rfl rfl rfl (two_of HT_.out (by kernel_rfl)) (by decide) (by decide) (fun K hK => ?_) (fun K hK => ?_)
     · skip
       refine goes_ Try.func28 (by kernel_rfl) rfl #[.int .i64 a0_0, .int .i64 32] (by rfl) rfl rfl (by (try simp only [List.map_toArray, List.map_cons, List.map_nil]); first | done | rfl | (simp only [List.length_drop, List.length_take]; rfl)) ?_
       with_reducible refine (partitalaw05_pick.calls a0_0 32 t133 _ A3.out).mono ?_
       rintro e w' ⟨rfl, ⟨nd, rfl⟩⟩
       refine ⟨_, rfl, ?_⟩
       refine hK.out _ _ ⟨(blk_cell BK131.out 0).trans rfl, (blk_cell BK131.out 1).trans rfl, (blk_cell BK131.out 2).trans rfl⟩ (fun hHeld => ?_)
       clear hK K
       refine norm_ (a' := ?_) ?_ ?_
       rotate_left
       · show Act.put _ (some 11) _ = _
         simp only [Act.put, qa_, qz_, qs_, i64_w, i32_w]
         rfl
       refine pure_ (i := 3) (N := some 12) (v := ?_) (a' := ?_) #[true, true, true, true, true, true, false, false, false, false, false] rfl rfl (any_of HT_.out (by kernel_rfl)) (fun _ _ _ h => h) (Or.inl ⟨by rfl, ?_⟩) ?_ ?_
       rotate_left
       · intro w'
         go_simp
         with_reducible rfl
       rotate_left
       · simp only [Act.put, qa_, qz_, qs_, i64_w, i32_w]
         rfl
       refine two_ (i := 6) (j := 9) (Ni := some 15) (Nj := some 5) #[true, true, true, true, true, true, true, false, false, false, false] #[true, true, true, true, true, true, false, false, false, true, false] rfl rfl rfl rfl (two_of HT_.out (by kernel_rfl)) (by decide) (by decide) (fun K hK => ?_) (fun K hK => ?_)
       · skip
         refine goes_ Try.func28 (by kernel_rfl) rfl #[.int .i64 a0_1, .int .i64 7] (by rfl) rfl rfl (by (try simp only [List.map_toArray, List.map_cons, List.map_nil]); first | done | rfl | (simp only [List.length_drop, List.length_take]; rfl)) ?_
         with_reducible refine (partitalaw05_pick.calls a0_1 7 t134 _ A4.out).mono ?_
         rintro e w' ⟨rfl, ⟨nd, rfl⟩⟩
         refine ⟨_, rfl, ?_⟩
         refine hK.out _ _ ⟨(blk_cell BK131.out 0).trans rfl, (blk_cell BK131.out 1).trans rfl, (blk_cell BK131.out 2).trans rfl⟩ (fun hHeld => ?_)
         clear hK K
         refine norm_ (a' := ?_) ?_ ?_
         rotate_left
         · show Act.put _ (some 15) _ = _
           simp only [Act.put, qa_, qz_, qs_, i64_w, i32_w]
           rfl
         refine pure_ (i := 7) (N := some 16) (v := ?_) (a' := ?_) #[true, true, true, true, true, true, true, true, false, false, false] rfl rfl (any_of HT_.out (by kernel_rfl)) (fun _ _ _ h => h) (Or.inl ⟨by rfl, ?_⟩) ?_ ?_
         rotate_left
         · intro w'
           go_simp
           with_reducible rfl
         rotate_left
         · simp only [Act.put, qa_, qz_, qs_, i64_w, i32_w]
           rfl
         refine pure_ (i := 8) (N := some 17) (v := ?_) (a' := ?_) #[true, true, true, true, true, true, true, true, true, false, false] rfl rfl (any_of HT_.out (by kernel_rfl)) (fun _ _ _ h => h) (Or.inl ⟨by rfl, ?_⟩) ?_ ?_
         rotate_left
         · intro w'
           go_simp
           with_reducible rfl
         rotate_left
         · simp only [Act.put, qa_, qz_, qs_, i64_w, i32_w]
           rfl
         refine one_ (i := 9) (N := some 5) #[true, true, true, true, true, true, true, true, true, true, false] rfl rfl (one_of HT_.out (by kernel_rfl)) (by decide) (fun K hK => ?_)
         refine box_step ?hg (N := 5) ?hd (cs := #[.int .i64 0, .int .i64 0, .slice none 0 0]) (t := 24) ?hr ?_; (case hd => rfl); (case hg => rfl); (case hr => first | (go_simp; done) | (go_simp; rfl))
         intro gb135 hg w10 hbox hb
         have n0_ := Aside0.mk (blk_below (qB BK131.out) hb)
         have n1_ := Aside0.mk (blk_below (qB BK132.out) hb)
         have n2_ := Aside0.mk (below_step (by repeat (first | (with_reducible first | exact HB.out | apply below_alloc | apply pw_below_drewN | apply below_drew1 | refine below_set ?_ (Aside0.out (by assumption))) | exact HB.out)) hb)
         have n3_ := Aside0.mk (hbox)
         have n4_ := Aside0.mk ((by rw [hg]; exact (below_size (by repeat (first | (with_reducible first | exact HB.out | apply below_alloc | apply pw_below_drewN | apply below_drew1 | refine below_set ?_ (Aside0.out (by assumption))) | exact HB.out))) : w.heap.size ≤ gb135))
         have n5_ := Aside0.mk ((by rw [hg]; exact (below_size (by repeat (first | (with_reducible first | exact HB.out | apply below_alloc | apply pw_below_drewN | apply below_drew1 | refine below_set ?_ (Aside0.out (by assumption))) | exact HB.out))) : w.heap.size ≤ gb135))
         have n6_ := Aside0.mk ((by rw [hg]; exact Nat.ne_of_lt (blk_lt (qB BK131.out)) : gb131 ≠ gb135))
         have n7_ := Aside0.mk ((by rw [hg]; exact Nat.ne_of_gt (blk_lt (qB BK131.out)) : gb135 ≠ gb131))
         have n8_ := Aside0.mk ((by rw [hg]; exact Nat.ne_of_lt (blk_lt (qB BK132.out)) : gb132 ≠ gb135))
         have n9_ := Aside0.mk ((by rw [hg]; exact Nat.ne_of_gt (blk_lt (qB BK132.out)) : gb135 ≠ gb132))
         clear BK131
         clear BK132
         clear HB
         have BK131 := n0_
         have BK132 := n1_
         have HB := n2_
         have BK135 := n3_
         have GW135 := n4_
         have GE135 := n5_
         have NB131_135 := n6_
         have NB135_131 := n7_
         have NB132_135 := n8_
         have NB135_132 := n9_
         clear n0_ n1_ n2_ n3_ n4_ n5_ n6_ n7_ n8_ n9_
         clear hb hbox hg
         refine hK.out _ _ ⟨(blk_cell BK131.out 0).trans rfl, (blk_cell BK131.out 1).trans rfl, (blk_cell BK131.out 2).trans rfl⟩ (fun hHeld => ?_)
         clear hK K
         refine norm_ (a' := ?_) ?_ ?_
         rotate_left
         · show Act.put _ (some 5) _ = _
           simp only [Act.put, qa_, qz_, qs_, i64_w, i32_w]
           rfl
         exact norm_ (by simp only [putAll, Act.put, qa_, qz_, qs_]) (hCont (gb135) _ ⟨hHeld, (qB BK131.out), (qB BK132.out), (qB BK135.out), GW135.out, GE135.out, NB131_135.out, NB135_131.out, NB132_135.out, NB135_132.out, (by repeat (first | (with_reducible first | exact HB.out | apply below_alloc | apply pw_below_drewN | apply below_drew1 | refine below_set ?_ (Aside0.out (by assumption))) | exact HB.out))⟩)
       · skip
         refine box_step ?hg (N := 5) ?hd (cs := #[.int .i64 0, .int .i64 0, .slice none 0 0]) (t := 24) ?hr ?_; (case hd => rfl); (case hg => rfl); (case hr => first | (go_simp; done) | (go_simp; rfl))
         intro gb135 hg w10 hbox hb
         have n0_ := Aside0.mk (blk_below (qB BK131.out) hb)
         have n1_ := Aside0.mk (blk_below (qB BK132.out) hb)
         have n2_ := Aside0.mk (below_step (by repeat (first | (with_reducible first | exact HB.out | apply below_alloc | apply pw_below_drewN | apply below_drew1 | refine below_set ?_ (Aside0.out (by assumption))) | exact HB.out)) hb)
         have n3_ := Aside0.mk (hbox)
         have n4_ := Aside0.mk ((by rw [hg]; exact (below_size (by repeat (first | (with_reducible first | exact HB.out | apply below_alloc | apply pw_below_drewN | apply below_drew1 | refine below_set ?_ (Aside0.out (by assumption))) | exact HB.out))) : w.heap.size ≤ gb135))
         have n5_ := Aside0.mk ((by rw [hg]; exact (below_size (by repeat (first | (with_reducible first | exact HB.out | apply below_alloc | apply pw_below_drewN | apply below_drew1 | refine below_set ?_ (Aside0.out (by assumption))) | exact HB.out))) : w.heap.size ≤ gb135))
         have n6_ := Aside0.mk ((by rw [hg]; exact Nat.ne_of_lt (blk_lt (qB BK131.out)) : gb131 ≠ gb135))
         have n7_ := Aside0.mk ((by rw [hg]; exact Nat.ne_of_gt (blk_lt (qB BK131.out)) : gb135 ≠ gb131))
         have n8_ := Aside0.mk ((by rw [hg]; exact Nat.ne_of_lt (blk_lt (qB BK132.out)) : gb132 ≠ gb135))
         have n9_ := Aside0.mk ((by rw [hg]; exact Nat.ne_of_gt (blk_lt (qB BK132.out)) : gb135 ≠ gb132))
         clear BK131
         clear BK132
         clear HB
         have BK131 := n0_
         have BK132 := n1_
         have HB := n2_
         have BK135 := n3_
         have GW135 := n4_
         have GE135 := n5_
         have NB131_135 := n6_
         have NB135_131 := n7_
         have NB132_135 := n8_
         have NB135_132 := n9_
         clear n0_ n1_ n2_ n3_ n4_ n5_ n6_ n7_ n8_ n9_
         clear hb hbox hg
         refine hK.out _ _ ⟨(blk_cell BK131.out 0).trans rfl, (blk_cell BK131.out 1).trans rfl, (blk_cell BK131.out 2).trans rfl⟩ (fun hHeld => ?_)
         clear hK K
         refine norm_ (a' := ?_) ?_ ?_
         rotate_left
         · show Act.put _ (some 5) _ = _
           simp only [Act.put, qa_, qz_, qs_, i64_w, i32_w]
           rfl
         refine one_ (i := 6) (N := some 15) #[true, true, true, true, true, true, true, false, false, true, false] rfl rfl (one_of HT_.out (by kernel_rfl)) (by decide) (fun K hK => ?_)
         refine goes_ Try.func28 (by kernel_rfl) rfl #[.int .i64 a0_1, .int .i64 7] (by rfl) rfl rfl (by (try simp only [List.map_toArray, List.map_cons, List.map_nil]); first | done | rfl | (simp only [List.length_drop, List.length_take]; rfl)) ?_
         with_reducible refine (partitalaw05_pick.calls a0_1 7 t134 _ A4.out).mono ?_
         rintro e w' ⟨rfl, ⟨nd, rfl⟩⟩
         refine ⟨_, rfl, ?_⟩
         refine hK.out _ _ ⟨(blk_cell BK131.out 0).trans rfl, (blk_cell BK131.out 1).trans rfl, (blk_cell BK131.out 2).trans rfl⟩ (fun hHeld => ?_)
         clear hK K
         refine norm_ (a' := ?_) ?_ ?_
         rotate_left
         · show Act.put _ (some 15) _ = _
           simp only [Act.put, qa_, qz_, qs_, i64_w, i32_w]
           rfl
         refine pure_ (i := 7) (N := some 16) (v := ?_) (a' := ?_) #[true, true, true, true, true, true, true, true, false, true, false] rfl rfl (any_of HT_.out (by kernel_rfl)) (fun _ _ _ h => h) (Or.inl ⟨by rfl, ?_⟩) ?_ ?_
         rotate_left
         · intro w'
           go_simp
           with_reducible rfl
         rotate_left
         · simp only [Act.put, qa_, qz_, qs_, i64_w, i32_w]
           rfl
         refine pure_ (i := 8) (N := some 17) (v := ?_) (a' := ?_) #[true, true, true, true, true, true, true, true, true, true, false] rfl rfl (any_of HT_.out (by kernel_rfl)) (fun _ _ _ h => h) (Or.inl ⟨by rfl, ?_⟩) ?_ ?_
         rotate_left
         · intro w'
           go_simp
           with_reducible rfl
         rotate_left
         · simp only [Act.put, qa_, qz_, qs_, i64_w, i32_w]
           rfl
         exact norm_ (by simp only [putAll, Act.put, qa_, qz_, qs_]) (hCont (gb135) _ ⟨hHeld, (qB BK131.out), (qB BK132.out), (qB BK135.out), GW135.out, GE135.out, NB131_135.out, NB135_131.out, NB132_135.out, NB135_132.out, (by repeat (first | (with_reducible first | exact HB.out | apply below_alloc | apply pw_below_drewN | apply below_drew1 | refine below_set ?_ (Aside0.out (by assumption))) | exact HB.out))⟩)
     · skip
       refine box_step ?hg (N := 5) ?hd (cs := #[.int .i64 0, .int .i64 0, .slice none 0 0]) (t := 24) ?hr ?_; (case hd => rfl); (case hg => rfl); (case hr => first | (go_simp; done) | (go_simp; rfl))
       intro gb135 hg w10 hbox hb
       have n0_ := Aside0.mk (blk_below (qB BK131.out) hb)
       have n1_ := Aside0.mk (blk_below (qB BK132.out) hb)
       have n2_ := Aside0.mk (below_step (by repeat (first | (with_reducible first | exact HB.out | apply below_alloc | apply pw_below_drewN | apply below_drew1 | refine below_set ?_ (Aside0.out (by assumption))) | exact HB.out)) hb)
       have n3_ := Aside0.mk (hbox)
       have n4_ := Aside0.mk ((by rw [hg]; exact (below_size (by repeat (first | (with_reducible first | exact HB.out | apply below_alloc | apply pw_below_drewN | apply below_drew1 | refine below_set ?_ (Aside0.out (by assumption))) | exact HB.out))) : w.heap.size ≤ gb135))
       have n5_ := Aside0.mk ((by rw [hg]; exact (below_size (by repeat (first | (with_reducible first | exact HB.out | apply below_alloc | apply pw_below_drewN | apply below_drew1 | refine below_set ?_ (Aside0.out (by assumption))) | exact HB.out))) : w.heap.size ≤ gb135))
       have n6_ := Aside0.mk ((by rw [hg]; exact Nat.ne_of_lt (blk_lt (qB BK131.out)) : gb131 ≠ gb135))
       have n7_ := Aside0.mk ((by rw [hg]; exact Nat.ne_of_gt (blk_lt (qB BK131.out)) : gb135 ≠ gb131))
       have n8_ := Aside0.mk ((by rw [hg]; exact Nat.ne_of_lt (blk_lt (qB BK132.out)) : gb132 ≠ gb135))
       have n9_ := Aside0.mk ((by rw [hg]; exact Nat.ne_of_gt (blk_lt (qB BK132.out)) : gb135 ≠ gb132))
       clear BK131
       clear BK132
       clear HB
       have BK131 := n0_
       have BK132 := n1_
       have HB := n2_
       have BK135 := n3_
       have GW135 := n4_
       have GE135 := n5_
       have NB131_135 := n6_
       have NB135_131 := n7_
       have NB132_135 := n8_
       have NB135_132 := n9_
       clear n0_ n1_ n2_ n3_ n4_ n5_ n6_ n7_ n8_ n9_
       clear hb hbox hg
       refine hK.out _ _ ⟨(blk_cell BK131.out 0).trans rfl, (blk_cell BK131.out 1).trans rfl, (blk_cell BK131.out 2).trans rfl⟩ (fun hHeld => ?_)
       clear hK K
       refine norm_ (a' := ?_) ?_ ?_
       rotate_left
       · show Act.put _ (some 5) _ = _
         simp only [Act.put, qa_, qz_, qs_, i64_w, i32_w]
         rfl
       refine one_ (i := 2) (N := some 11) #[true, true, true, false, true, true, false, false, false, true, false] rfl rfl (one_of HT_.out (by kernel_rfl)) (by decide) (fun K hK => ?_)
       refine goes_ Try.func28 (by kernel_rfl) rfl #[.int .i64 a0_0, .int .i64 32] (by rfl) rfl rfl (by (try simp only [List.map_toArray, List.map_cons, List.map_nil]); first | done | rfl | (simp only [List.length_drop, List.length_take]; rfl)) ?_
       with_reducible refine (partitalaw05_pick.calls a0_0 32 t133 _ A3.out).mono ?_
       rintro e w' ⟨rfl, ⟨nd, rfl⟩⟩
       refine ⟨_, rfl, ?_⟩
       refine hK.out _ _ ⟨(blk_cell BK131.out 0).trans rfl, (blk_cell BK131.out 1).trans rfl, (blk_cell BK131.out 2).trans rfl⟩ (fun hHeld => ?_)
       clear hK K
       refine norm_ (a' := ?_) ?_ ?_
       rotate_left
       · show Act.put _ (some 11) _ = _
         simp only [Act.put, qa_, qz_, qs_, i64_w, i32_w]
         rfl
       refine pure_ (i := 3) (N := some 12) (v := ?_) (a' := ?_) #[true, true, true, true, true, true, false, false, false, true, false] rfl rfl (any_of HT_.out (by kernel_rfl)) (fun _ _ _ h => h) (Or.inl ⟨by rfl, ?_⟩) ?_ ?_
       rotate_left
       · intro w'
         go_simp
         with_reducible rfl
       rotate_left
       · simp only [Act.put, qa_, qz_, qs_, i64_w, i32_w]
         rfl
       refine one_ (i := 6) (N := some 15) #[true, true, true, true, true, true, true, false, false, true, false] rfl rfl (one_of HT_.out (by kernel_rfl)) (by decide) (fun K hK => ?_)
       refine goes_ Try.func28 (by kernel_rfl) rfl #[.int .i64 a0_1, .int .i64 7] (by rfl) rfl rfl (by (try simp only [List.map_toArray, List.map_cons, List.map_nil]); first | done | rfl | (simp only [List.length_drop, List.length_take]; rfl)) ?_
       with_reducible refine (partitalaw05_pick.calls a0_1 7 t134 _ A4.out).mono ?_
       rintro e w' ⟨rfl, ⟨nd, rfl⟩⟩
       refine ⟨_, rfl, ?_⟩
       refine hK.out _ _ ⟨(blk_cell BK131.out 0).trans rfl, (blk_cell BK131.out 1).trans rfl, (blk_cell BK131.out 2).trans rfl⟩ (fun hHeld => ?_)
       clear hK K
       refine norm_ (a' := ?_) ?_ ?_
       rotate_left
       · show Act.put _ (some 15) _ = _
         simp only [Act.put, qa_, qz_, qs_, i64_w, i32_w]
         rfl
       refine pure_ (i := 7) (N := some 16) (v := ?_) (a' := ?_) #[true, true, true, true, true, true, true, true, false, true, false] rfl rfl (any_of HT_.out (by kernel_rfl)) (fun _ _ _ h => h) (Or.inl ⟨by rfl, ?_⟩) ?_ ?_
       rotate_left
       · intro w'
         go_simp
         with_reducible rfl
       rotate_left
       · simp only [Act.put, qa_, qz_, qs_, i64_w, i32_w]
         rfl
       refine pure_ (i := 8) (N := some 17) (v := ?_) (a' := ?_) #[true, true, true, true, true, true, true, true, true, true, false] rfl rfl (any_of HT_.out (by kernel_rfl)) (fun _ _ _ h => h) (Or.inl ⟨by rfl, ?_⟩) ?_ ?_
       rotate_left
       · intro w'
         go_simp
         with_reducible rfl
       rotate_left
       · simp only [Act.put, qa_, qz_, qs_, i64_w, i32_w]
         rfl
       exact norm_ (by simp only [putAll, Act.put, qa_, qz_, qs_]) (hCont (gb135) _ ⟨hHeld, (qB BK131.out), (qB BK132.out), (qB BK135.out), GW135.out, GE135.out, NB131_135.out, NB135_131.out, NB132_135.out, NB135_132.out, (by repeat (first | (with_reducible first | exact HB.out | apply below_alloc | apply pw_below_drewN | apply below_drew1 | refine below_set ?_ (Aside0.out (by assumption))) | exact HB.out))⟩)
   rintro gb135 w11 ⟨hS_, h0_, h1_, h2_, h3_, h4_, h5_, h6_, h7_, h8_, h9_⟩
   have n0_ : Aside0 (w11.heap[gb131]? = some (.cells #[.int .i64 a0_0, .int .i64 a0_1, .slice A0_2 l0_2.length c0_2] 24 (0, 0))) := ⟨h0_⟩
   have n1_ : Aside0 (w11.heap[gb132]? = some (.cells #[.int .i64 0, .int .i64 0, .slice none 0 0] 24 (0, 0))) := ⟨h1_⟩
   have n2_ : Aside0 (w11.heap[gb135]? = some (.cells #[.int .i64 0, .int .i64 0, .slice none 0 0] 24 (0, 0))) := ⟨h2_⟩
   have n3_ : Aside0 (w.heap.size ≤ gb135) := ⟨h3_⟩
   have n4_ : Aside0 (w.heap.size ≤ gb135) := ⟨h4_⟩
   have n5_ : Aside0 (gb131 ≠ gb135) := ⟨h5_⟩
   have n6_ : Aside0 (gb135 ≠ gb131) := ⟨h6_⟩
   have n7_ : Aside0 (gb132 ≠ gb135) := ⟨h7_⟩
   have n8_ : Aside0 (gb135 ≠ gb132) := ⟨h8_⟩
   have n9_ : Aside0 (Below w.heap.size w w11) := ⟨h9_⟩
   clear BK131
   clear BK132
   clear HB
   clear h0_ h1_ h2_ h3_ h4_ h5_ h6_ h7_ h8_ h9_
   have BK131 := n0_
   have BK132 := n1_
   have BK135 := n2_
   have GW135 := n3_
   have GE135 := n4_
   have NB131_135 := n5_
   have NB135_131 := n6_
   have NB132_135 := n7_
   have NB135_132 := n8_
   have HB := n9_
   clear n0_ n1_ n2_ n3_ n4_ n5_ n6_ n7_ n8_ n9_
   have hHeld : w11.cell? ⟨gb131, 0, none⟩ = some (.int .i64 a0_0) ∧ w11.cell? ⟨gb131, 1, none⟩ = some (.int .i64 a0_1) ∧ w11.cell? ⟨gb131, 2, none⟩ = some (.slice A0_2 l0_2.length c0_2) := hS_
   refine norm_ (a' := ?_) ?_ ?_
   rotate_left
   · simp only [putAll, Act.put, qa_, qz_, qs_]
     rfl
   refine one_ (i := 10) (N := none) #[true, true, true, true, true, true, true, true, true, true, true] rfl rfl (one_of HT_.out (by kernel_rfl)) (by decide) (fun K hK => ?_)
   have hs12 : w11.cell? ⟨gb135, 0, none⟩ = some (.int .i64 0) := (blk_cell BK135.out 0).trans rfl
   have hfs12 := blk_frozen BK135.out 0
   have hns12_0 := NB131_135.out
   have hns12_1 := NB132_135.out
   have hms12_0 := NB135_131.out
   have hms12_1 := NB135_132.out
   have hs13 : w11.cell? ⟨gb135, 1, none⟩ = some (.int .i64 0) := (blk_cell BK135.out 1).trans rfl
   have hfs13 := blk_frozen BK135.out 1
   have hns13_0 := NB131_135.out
   have hns13_1 := NB132_135.out
   have hms13_0 := NB135_131.out
   have hms13_1 := NB135_132.out
   have hs14 : w11.cell? ⟨gb135, 2, none⟩ = some (.slice none 0 0) := (blk_cell BK135.out 2).trans rfl
   have hfs14 := blk_frozen BK135.out 2
   have hns14_0 := NB131_135.out
   have hns14_1 := NB132_135.out
   have hms14_0 := NB135_131.out
   have hms14_1 := NB135_132.out
   refine skip_ (w1 := ?_) (by rfl) rfl ?_ ?_
   rotate_left
   · go_simp
     rfl
   refine hK.out _ _ ⟨((cell_far (p := ⟨gb135, _, none⟩) NB131_135.out _).trans (((cell_far (p := ⟨gb135, _, none⟩) NB131_135.out _).trans (((cell_far (p := ⟨gb135, _, none⟩) NB131_135.out _).trans (hHeld.1)))))), ((cell_far (p := ⟨gb135, _, none⟩) NB131_135.out _).trans (((cell_far (p := ⟨gb135, _, none⟩) NB131_135.out _).trans (((cell_far (p := ⟨gb135, _, none⟩) NB131_135.out _).trans (hHeld.2.1)))))), ((cell_far (p := ⟨gb135, _, none⟩) NB131_135.out _).trans (((cell_far (p := ⟨gb135, _, none⟩) NB131_135.out _).trans (((cell_far (p := ⟨gb135, _, none⟩) NB131_135.out _).trans (hHeld.2.2))))))⟩ (fun hHeld => ?_)
   clear hK K
   refine done_ (done_of HT_.out (by kernel_rfl)) ?_
   have hnb15 := NB135_131.out
   have hnc15 := NB131_135.out
   have hnb16 := NB135_132.out
   have hnc16 := NB132_135.out
   have hcz17_0 : w11.cell? ⟨gb135, 0, none⟩ = some (.int .i64 0) := (blk_cell BK135.out 0).trans rfl
   have hcz17_1 : w11.cell? ⟨gb135, 1, none⟩ = some (.int .i64 0) := (blk_cell BK135.out 1).trans rfl
   have hcz17_2 : w11.cell? ⟨gb135, 2, none⟩ = some (.slice none 0 0) := (blk_cell BK135.out 2).trans rfl
   have hfz17_0 := blk_frozen BK135.out 0
   have hfz17_1 := blk_frozen BK135.out 1
   have hfz17_2 := blk_frozen BK135.out 2
   try go_wp2
   go_loopg [6, 7] k (fun kq v6 v7 w' => ∃ (x6_1 : Int) (x7_1 : Int) (x136002_1 : List Int) (u136002 : Value), v6 = .int .i64 x6_1 ∧ v7 = .int .i64 x7_1 ∧ Aside0 (partitalaw05_Meter.l0 kq a1 x6_1 x7_1 a0_0 a0_1 l0_2 (wrap64 (1 + t133)) ji6 x136002_1 = some (r1, r2, r3)) ∧ Aside0 (kq ≤ k) ∧ Aside0 (Kd.R (Kd.int .i64) 3 w' w.heap.size (fun _ => True) u136002 x136002_1) ∧ Aside0 (w'.heap[gb131]? = some (.cells #[.int .i64 a0_0, .int .i64 a0_1, (.slice A0_2 l0_2.length c0_2)] 24 (0, 0))) ∧ Aside0 (w'.heap[gb132]? = some (.cells #[.int .i64 0, .int .i64 0, (.slice none 0 0)] 24 (0, 0))) ∧ Aside0 (w'.heap[gb135]? = some (.cells #[.int .i64 (wrap64 (1 + t133)), .int .i64 ji6, u136002] 24 (0, 0))) ∧ Aside0 (Below w.heap.size w w'))
   case atStart => exact ⟨(wrap64 (1 + t133)), (0), (([] : List Int)), (.slice none 0 0), (by first | rfl | (simp; done) | (simp [*]; done) | (simp [wrap64]; done)), (by first | rfl | (simp; done) | (simp [*]; done) | (simp [wrap64]; done)), H', ⟨Nat.le_refl _⟩, ⟨by first | exact Kd.R_nil _ _ _ _ _ | exact Kd.N_nil _ _ _ _ _ | exact Kd.V_nil _ _ _ _ _ | exact Kd.Q_nil _ _ _ _ _ | exact Kd.S_nil _ _ _ _ _⟩, ⟨by (with_reducible repeat (first | refine blk_drewN ?_ _ | refine blk_drew ?_ | refine blk_alloc ?_ _)); refine blk_far ?_ NB131_135.out _; (with_reducible repeat (first | refine blk_drewN ?_ _ | refine blk_drew ?_ | refine blk_alloc ?_ _)); refine blk_far ?_ NB131_135.out _; (with_reducible repeat (first | refine blk_drewN ?_ _ | refine blk_drew ?_ | refine blk_alloc ?_ _)); refine blk_far ?_ NB131_135.out _; (with_reducible repeat (first | refine blk_drewN ?_ _ | refine blk_drew ?_ | refine blk_alloc ?_ _)); exact BK131.out⟩, ⟨by (with_reducible repeat (first | refine blk_drewN ?_ _ | refine blk_drew ?_ | refine blk_alloc ?_ _)); refine blk_far ?_ NB132_135.out _; (with_reducible repeat (first | refine blk_drewN ?_ _ | refine blk_drew ?_ | refine blk_alloc ?_ _)); refine blk_far ?_ NB132_135.out _; (with_reducible repeat (first | refine blk_drewN ?_ _ | refine blk_drew ?_ | refine blk_alloc ?_ _)); refine blk_far ?_ NB132_135.out _; (with_reducible repeat (first | refine blk_drewN ?_ _ | refine blk_drew ?_ | refine blk_alloc ?_ _)); exact BK132.out⟩, ⟨by (with_reducible repeat (first | refine blk_drewN ?_ _ | refine blk_drew ?_ | refine blk_alloc ?_ _)); refine blk_put (cs := #[.int .i64 (wrap64 (1 + t133)), .int .i64 ji6, .slice none 0 0]) ?_ 2 _ rfl; (with_reducible repeat (first | refine blk_drewN ?_ _ | refine blk_drew ?_ | refine blk_alloc ?_ _)); refine blk_put (cs := #[.int .i64 (wrap64 (1 + t133)), .int .i64 0, .slice none 0 0]) ?_ 1 _ rfl; (with_reducible repeat (first | refine blk_drewN ?_ _ | refine blk_drew ?_ | refine blk_alloc ?_ _)); refine blk_put (cs := #[.int .i64 0, .int .i64 0, .slice none 0 0]) ?_ 0 _ rfl; (with_reducible repeat (first | refine blk_drewN ?_ _ | refine blk_drew ?_ | refine blk_alloc ?_ _)); exact BK135.out⟩, ⟨by repeat (first | (with_reducible first | exact HB.out | apply below_alloc | apply pw_below_drewN | apply below_drew1 | refine below_set ?_ (Aside0.out (by assumption))) | exact HB.out)⟩⟩
   case round =>
    clear H'
    try clear c1
    try clear c2
    try clear p2
    try clear c5
    try clear c5b0
    try clear c5b1
    try clear p6
    try clear c11
    try clear c15
    try clear c16
    try clear hcz17_0
    try clear hcz17_1
    try clear hcz17_2
    try clear hfz17_0
    try clear hfz17_1
    try clear hfz17_2
    obtain ⟨x6_1, x7_1, x136002_1, u136002, rfl, rfl, HA, HK1, HO_136002, BK131, BK132, BK135, HB⟩ := hrel
    cases gk with
    | zero => exact absurd HA.out (by simp [partitalaw05_Meter.l0])
    | succ k1 =>
     have H := HA.out
     clear HA
     simp only [partitalaw05_Meter.l0] at H
     have HC18 := Aside0.mk H
     clear H
     go_upto_region 4 with (fail)
     go_cut [24] (fun v24 wc => ∃ (kq : Nat) (x24_17 : Bool), v24 = .bool x24_17 ∧ Aside0 (partitalaw05_Meter.j1 kq a1 x6_1 x7_1 x24_17 a0_0 a0_1 l0_2 (wrap64 (1 + t133)) ji6 x136002_1 = some (r1, r2, r3)) ∧ Aside0 (kq ≤ k1) ∧ Aside0 (Kd.R (Kd.int .i64) 3 wc w.heap.size (fun _ => True) u136002 x136002_1) ∧ Aside0 (wc.heap[gb131]? = some (.cells #[.int .i64 a0_0, .int .i64 a0_1, (.slice A0_2 l0_2.length c0_2)] 24 (0, 0))) ∧ Aside0 (wc.heap[gb132]? = some (.cells #[.int .i64 0, .int .i64 0, (.slice none 0 0)] 24 (0, 0))) ∧ Aside0 (wc.heap[gb135]? = some (.cells #[.int .i64 (wrap64 (1 + t133)), .int .i64 ji6, u136002] 24 (0, 0))) ∧ Aside0 (Below w.heap.size w wc))
     case first =>
      have H := HC18.out
      clear HC18
      by_cases c19 : x6_1 > 0
      · rw [if_pos c19] at H
        have c19b0 : decide (0 < x6_1) = true := decide_eq_true c19
        clear c19
        (first | rw [c19b0] | (simp only [i64_w, i32_w]; rw [c19b0]) | skip)
        have H' := Aside0.mk H
        clear H
        go_wp2
        go_meet
        case rel => exact ⟨_, (a1), (by first | rfl | (simp; done) | (simp [*]; done) | (simp [wrap64]; done)), H', ⟨by have := HK1.out; first | omega | exact Nat.le_refl _⟩, ⟨by (with_reducible repeat (first | apply Kd.R_alloc | apply Kd.R_drewN | apply Kd.R_drew)); exact HO_136002.out⟩, ⟨by (with_reducible repeat (first | refine blk_drewN ?_ _ | refine blk_drew ?_ | refine blk_alloc ?_ _)); exact BK131.out⟩, ⟨by (with_reducible repeat (first | refine blk_drewN ?_ _ | refine blk_drew ?_ | refine blk_alloc ?_ _)); exact BK132.out⟩, ⟨by (with_reducible repeat (first | refine blk_drewN ?_ _ | refine blk_drew ?_ | refine blk_alloc ?_ _)); exact BK135.out⟩, ⟨by repeat (first | (with_reducible first | exact HB.out | apply below_alloc | apply pw_below_drewN | apply below_drew1 | refine below_set ?_ (Aside0.out (by assumption))) | exact HB.out)⟩⟩
      · rw [if_neg c19] at H
        have c19b0 : decide (0 < x6_1) = false := decide_eq_false c19
        clear c19
        (first | rw [c19b0] | (simp only [i64_w, i32_w]; rw [c19b0]) | skip)
        have H' := Aside0.mk H
        clear H
        go_wp2
        go_meet
        case rel => exact ⟨_, (false), (by first | rfl | (simp; done) | (simp [*]; done) | (simp [wrap64]; done)), H', ⟨by have := HK1.out; first | omega | exact Nat.le_refl _⟩, ⟨by (with_reducible repeat (first | apply Kd.R_alloc | apply Kd.R_drewN | apply Kd.R_drew)); exact HO_136002.out⟩, ⟨by (with_reducible repeat (first | refine blk_drewN ?_ _ | refine blk_drew ?_ | refine blk_alloc ?_ _)); exact BK131.out⟩, ⟨by (with_reducible repeat (first | refine blk_drewN ?_ _ | refine blk_drew ?_ | refine blk_alloc ?_ _)); exact BK132.out⟩, ⟨by (with_reducible repeat (first | refine blk_drewN ?_ _ | refine blk_drew ?_ | refine blk_alloc ?_ _)); exact BK135.out⟩, ⟨by repeat (first | (with_reducible first | exact HB.out | apply below_alloc | apply pw_below_drewN | apply below_drew1 | refine below_set ?_ (Aside0.out (by assumption))) | exact HB.out)⟩⟩
     case rest =>
      clear HC18
      try clear c1
      try clear c2
      try clear p2
      try clear c5
      try clear c5b0
      try clear c5b1
      try clear p6
      try clear c11
      try clear c15
      try clear c16
      try clear c19
      try clear c19b0
      try clear hcz17_0
      try clear hcz17_1
      try clear hcz17_2
      try clear hfz17_0
      try clear hfz17_1
      try clear hfz17_2
      try clear p2
      try clear p6
      obtain ⟨kq, x24_17, rfl, HA, HJ17, HO_136002, BK131, BK132, BK135, HB⟩ := hcut
      cases kq with
      | zero => exact absurd HA.out (by simp [partitalaw05_Meter.j1])
      | succ kj17 =>
       have H := HA.out
       clear HA
       simp only [partitalaw05_Meter.j1] at H
       by_cases c20 : x24_17 = true
       · subst c20
         have H1 : (if x7_1 < (l0_2.length : Int) then (if 0 ≤ x7_1 then ((partitalaw05_pick.f (rd l0_2 x7_1) 5).bind fun t137 => (if x136002_1.length < 17592186044416 then (partitalaw05_Meter.l0 kj17 a1 (wrap64 (x6_1 - (mn (wrap64 (1 + t137)) x6_1))) (wrap64 (x7_1 + 1)) a0_0 a0_1 l0_2 (wrap64 (1 + t133)) ji6 (x136002_1 ++ [mn (wrap64 (1 + t137)) x6_1])) else (none))) else (none)) else (if x136002_1.length < 17592186044416 then (partitalaw05_Meter.l0 kj17 a1 (wrap64 (x6_1 - x6_1)) (wrap64 (x7_1 + 1)) a0_0 a0_1 l0_2 (wrap64 (1 + t133)) ji6 (x136002_1 ++ [x6_1])) else (none))) = some (r1, r2, r3) := by rw [if_pos rfl] at H; exact H
         clear H
         have H := H1
         clear H1
         by_cases c21 : x7_1 < (l0_2.length : Int)
         · rw [if_pos c21] at H
           have c21b0 : decide (x7_1 < (l0_2.length : Int)) = true := decide_eq_true c21
           clear c21
           by_cases c22 : 0 ≤ x7_1
           · rw [if_pos c22] at H
             have c22b0 : decide (0 ≤ x7_1) = true := decide_eq_true c22
             clear c22
             replace H := Option.bind_eq_some_iff.mp H
             obtain ⟨t137, A230, H⟩ := H
             replace H : (if x136002_1.length < 17592186044416 then (partitalaw05_Meter.l0 kj17 a1 (wrap64 (x6_1 - (mn (wrap64 (1 + t137)) x6_1))) (wrap64 (x7_1 + 1)) a0_0 a0_1 l0_2 (wrap64 (1 + t133)) ji6 (x136002_1 ++ [mn (wrap64 (1 + t137)) x6_1])) else (none)) = some (r1, r2, r3) := H
             have A23 := Aside0.mk A230
             clear A230
             obtain ⟨ji24, hji24⟩ : ∃ j_ : Int, (mn (wrap64 (1 + t137)) x6_1) = j_ := ⟨_, rfl⟩
             replace H : (if x136002_1.length < 17592186044416 then (partitalaw05_Meter.l0 kj17 a1 (wrap64 (x6_1 - (ji24))) (wrap64 (x7_1 + 1)) a0_0 a0_1 l0_2 (wrap64 (1 + t133)) ji6 (x136002_1 ++ [ji24])) else (none)) = some (r1, r2, r3) := by first | (rw [hji24] at H; exact H) | (simp only [hji24] at H ⊢; exact H)
             (try rw [hji24] at A23)
             have hji24_ : (if x6_1 < (wrap64 (1 + t137)) then x6_1 else (wrap64 (1 + t137))) = ji24 := hji24
             by_cases c25 : x136002_1.length < 17592186044416
             · rw [if_pos c25] at H
               have LMc25 := Aside0.mk c25
               clear c25
               obtain ⟨y138, hy138⟩ : ∃ y_ : List Int, y_ = (x136002_1 ++ [ji24]) := ⟨_, rfl⟩
               replace H : (partitalaw05_Meter.l0 kj17 a1 (wrap64 (x6_1 - (ji24))) (wrap64 (x7_1 + 1)) a0_0 a0_1 l0_2 (wrap64 (1 + t133)) ji6 y138) = some (r1, r2, r3) := by first | (rw [hy138]; with_reducible exact H) | (have H2_ := (Option.bind_some _ _).symm.trans H; rw [hy138]; with_reducible exact H2_) | (have H2_ := (Option.bind_some _ _).symm.trans H; with_reducible exact H2_) | with_reducible exact H | (rw [hy138]; exact H) | exact H
               have Ny138 := Aside0.mk hy138
               clear hy138
               have H' := Aside0.mk H
               clear H
               have hnb26 := NB131_132.out
               have hnc26 := NB132_131.out
               have hnb27 := NB131_135.out
               have hnc27 := NB135_131.out
               have hcz28_0 : wc.cell? ⟨gb131, 0, none⟩ = some (.int .i64 a0_0) := (blk_cell BK131.out 0).trans rfl
               have hcz28_1 : wc.cell? ⟨gb131, 1, none⟩ = some (.int .i64 a0_1) := (blk_cell BK131.out 1).trans rfl
               have hcz28_2 : wc.cell? ⟨gb131, 2, none⟩ = some (.slice A0_2 l0_2.length c0_2) := (blk_cell BK131.out 2).trans rfl
               have hfz28_0 := blk_frozen BK131.out 0
               have hfz28_1 := blk_frozen BK131.out 1
               have hfz28_2 := blk_frozen BK131.out 2
               have p136 : 0 ≤ (x7_1 : Int) := of_decide_eq_true (by first | (with_reducible assumption) | assumption)
               have q136 : x7_1 < (l0_2.length : Int) := of_decide_eq_true (by first | (with_reducible assumption) | assumption)
               obtain ⟨ad136, e136, hx136_0⟩ := Kd.at_int HR0_2.out x7_1 p136 q136
               cases e136
               replace hx136_0 := (HB.out.cell (World.block_lt_of_cell? w _ hx136_0)).trans hx136_0
               replace p136 := eq_true p136
               replace q136 := eq_true q136
               go_wp2_with (first | ((with_reducible refine gate_callee (f := 28) rfl ?_); refine goesL_ (some 38) rfl rfl Try.func28 (by kernel_rfl) rfl #[.int .i64 (rd l0_2 x7_1), .int .i64 5] rfl (by (try simp only [List.map_toArray, List.map_cons, List.map_nil]); first | done | rfl | (simp only [List.length_drop, List.length_take]; rfl)) ?_; (with_reducible refine (partitalaw05_pick.calls (rd l0_2 x7_1) 5 t137 _ A23.out).mono ?_); rintro e w' ⟨rfl, ⟨nd, rfl⟩⟩; refine ⟨_, rfl, ?_⟩; (try (rw [drewN_self wc]; generalize hq_ : World.drewN wc _ = wc; have n0_ : Aside0 (Kd.R (Kd.int .i64) 3 wc w.heap.size (fun _ => True) u136002 x136002_1) := ⟨by rw [← hq_]; exact (qR HO_136002.out)⟩; have n1_ : Aside0 (wc.heap[gb131]? = some (.cells #[.int .i64 a0_0, .int .i64 a0_1, .slice (some ad136) l0_2.length c0_2] 24 (0, 0))) := ⟨by rw [← hq_]; exact (qB BK131.out)⟩; have n2_ : Aside0 (wc.heap[gb132]? = some (.cells #[.int .i64 0, .int .i64 0, .slice none 0 0] 24 (0, 0))) := ⟨by rw [← hq_]; exact (qB BK132.out)⟩; have n3_ : Aside0 (wc.heap[gb135]? = some (.cells #[.int .i64 (wrap64 (1 + t133)), .int .i64 ji6, u136002] 24 (0, 0))) := ⟨by rw [← hq_]; exact (qB BK135.out)⟩; have n4_ : Aside0 (Below w.heap.size w wc) := ⟨by rw [← hq_]; exact (by repeat (first | (with_reducible first | exact HB.out | apply below_alloc | apply pw_below_drewN | apply below_drew1 | refine below_set ?_ (Aside0.out (by assumption))) | exact HB.out))⟩; clear HO_136002 BK131 BK132 BK135 HB hq_; have HO_136002 := n0_; have BK131 := n1_; have BK132 := n2_; have BK135 := n3_; have HB := n4_; clear n0_ n1_ n2_ n3_ n4_)); have hnb29 := NB135_132.out; have hnc29 := NB132_135.out; have hcz30_0 : wc.cell? ⟨gb135, 0, none⟩ = some (.int .i64 (wrap64 (1 + t133))) := (blk_cell BK135.out 0).trans rfl; have hcz30_1 : wc.cell? ⟨gb135, 1, none⟩ = some (.int .i64 ji6) := (blk_cell BK135.out 1).trans rfl; have hcz30_2 : wc.cell? ⟨gb135, 2, none⟩ = some (u136002) := (blk_cell BK135.out 2).trans rfl; have hfz30_0 := blk_frozen BK135.out 0; have hfz30_1 := blk_frozen BK135.out 1; have hfz30_2 := blk_frozen BK135.out 2) | ((with_reducible refine gate_builtin (b := .append) (xs := #[.tmp 43, .tmp 45]) rfl ?_); at_builtin; refine Kd.R_append (Kd.int .i64) (w0 := w) w.heap.size rfl (.tmp 43) (.tmp 45) 22 3 (.int .i64 0) 8 rfl Try.underlying22 info3 rfl (by decide) (by omega) u136002 x136002_1 ji24 [.int .i64 ji24] (fun _ => True) (fun _ => False) rfl rfl ?aP (fun _ hk => hk.elim) ?aF ?aO ?aB ?aS ?aL ?_; (case aP => exact rfl); (case aB => exact (by repeat (first | (with_reducible first | exact HB.out | apply below_alloc | apply pw_below_drewN | apply below_drew1 | refine below_set ?_ (Aside0.out (by assumption))) | exact HB.out))); (case aF => exact (fun _ _ => trivial)); (case aO => exact (qR HO_136002.out)); (case aS => exact (below_size (by repeat (first | (with_reducible first | exact HB.out | apply below_alloc | apply pw_below_drewN | apply below_drew1 | refine below_set ?_ (Aside0.out (by assumption))) | exact HB.out)))); (case aL => have := LMc25.out; omega); intro v139 w31 ho hb hg hat; rw [← Ny138.out] at ho; have n0_ := Aside0.mk (blk_grown (g := gb131) (o := .cells #[.int .i64 a0_0, .int .i64 a0_1, .slice (some ad136) l0_2.length c0_2] 24 (0, 0)) (qB BK131.out) hg (Kd.R_ne HO_136002.out BK131.out (by decide))); have n1_ := Aside0.mk (blk_grown (qB BK132.out) hg (Kd.R_ne HO_136002.out BK132.out (by decide))); have n2_ := Aside0.mk (blk_grown (g := gb135) (o := .cells #[.int .i64 (wrap64 (1 + t133)), .int .i64 ji6, u136002] 24 (0, 0)) (qB BK135.out) hg (Kd.R_ne HO_136002.out BK135.out (by decide))); have n3_ := Aside0.mk (hb); have n4_ := Aside0.mk (ho); clear BK131; clear BK132; clear BK135; clear HB; clear HO_136002; have BK131 := n0_; have BK132 := n1_; have BK135 := n2_; have HB := n3_; have HO140 := n4_; clear n0_ n1_ n2_ n3_ n4_; clear ho hb hg hat; obtain ⟨Ao32, co32, eo32⟩ := Kd.R_slice HO140.out; subst eo32; have hcz33_0 : w31.cell? ⟨gb135, 0, none⟩ = some (.int .i64 (wrap64 (1 + t133))) := (blk_cell BK135.out 0).trans rfl; have hcz33_1 : w31.cell? ⟨gb135, 1, none⟩ = some (.int .i64 ji6) := (blk_cell BK135.out 1).trans rfl; have hcz33_2 : w31.cell? ⟨gb135, 2, none⟩ = some (u136002) := (blk_cell BK135.out 2).trans rfl; have hfz33_0 := blk_frozen BK135.out 0; have hfz33_1 := blk_frozen BK135.out 1; have hfz33_2 := blk_frozen BK135.out 2))
               go_roundg kj17
               case measure => have := HK1.out; have := HJ17.out; omega
               case rel => exact ⟨(wrap64 (x6_1 - (ji24))), (wrap64 (x7_1 + 1)), (y138), (.slice Ao32 y138.length co32), (by first | rfl | (simp; done) | (simp only [← hji24] <;> (first | rfl | simp)) | (simp [*]; done)), (by first | rfl | (simp; done) | (simp [*]; done) | (simp [wrap64]; done)), H', ⟨by have := HK1.out; have := HJ17.out; omega⟩, ⟨by (with_reducible repeat (first | apply Kd.R_alloc | apply Kd.R_drewN | apply Kd.R_drew)); exact Kd.R_mono (Kd.R_far (p := ⟨gb135, 2, none⟩) (Kd.R_types HO140.out BK135.out (by decide)) (fun _ hk => hk.2) (.slice Ao32 y138.length co32)) (fun _ hk => trivial)⟩, ⟨by (with_reducible repeat (first | refine blk_drewN ?_ _ | refine blk_drew ?_ | refine blk_alloc ?_ _)); refine blk_far ?_ NB131_135.out _; (with_reducible repeat (first | refine blk_drewN ?_ _ | refine blk_drew ?_ | refine blk_alloc ?_ _)); exact BK131.out⟩, ⟨by (with_reducible repeat (first | refine blk_drewN ?_ _ | refine blk_drew ?_ | refine blk_alloc ?_ _)); refine blk_far ?_ NB132_135.out _; (with_reducible repeat (first | refine blk_drewN ?_ _ | refine blk_drew ?_ | refine blk_alloc ?_ _)); exact BK132.out⟩, ⟨by (with_reducible repeat (first | refine blk_drewN ?_ _ | refine blk_drew ?_ | refine blk_alloc ?_ _)); refine blk_put (cs := #[.int .i64 (wrap64 (1 + t133)), .int .i64 ji6, u136002]) ?_ 2 _ rfl; (with_reducible repeat (first | refine blk_drewN ?_ _ | refine blk_drew ?_ | refine blk_alloc ?_ _)); exact BK135.out⟩, ⟨by repeat (first | (with_reducible first | exact HB.out | apply below_alloc | apply pw_below_drewN | apply below_drew1 | refine below_set ?_ (Aside0.out (by assumption))) | exact HB.out)⟩⟩
             · rw [if_neg c25] at H
               exact absurd H (by simp)
           · rw [if_neg c22] at H
             exact absurd H (by simp)
         · rw [if_neg c21] at H
           have c21b0 : decide (x7_1 < (l0_2.length : Int)) = false := decide_eq_false c21
           clear c21
           by_cases c34 : x136002_1.length < 17592186044416
           · rw [if_pos c34] at H
             have LMc34 := Aside0.mk c34
             clear c34
             obtain ⟨y141, hy141⟩ : ∃ y_ : List Int, y_ = (x136002_1 ++ [x6_1]) := ⟨_, rfl⟩
             replace H : (partitalaw05_Meter.l0 kj17 a1 (wrap64 (x6_1 - x6_1)) (wrap64 (x7_1 + 1)) a0_0 a0_1 l0_2 (wrap64 (1 + t133)) ji6 y141) = some (r1, r2, r3) := by first | (rw [hy141]; with_reducible exact H) | (have H2_ := (Option.bind_some _ _).symm.trans H; rw [hy141]; with_reducible exact H2_) | (have H2_ := (Option.bind_some _ _).symm.trans H; with_reducible exact H2_) | with_reducible exact H | (rw [hy141]; exact H) | exact H
             have Ny141 := Aside0.mk hy141
             clear hy141
             have H' := Aside0.mk H
             clear H
             have hnb35 := NB131_132.out
             have hnc35 := NB132_131.out
             have hnb36 := NB131_135.out
             have hnc36 := NB135_131.out
             have hcz37_0 : wc.cell? ⟨gb131, 0, none⟩ = some (.int .i64 a0_0) := (blk_cell BK131.out 0).trans rfl
             have hcz37_1 : wc.cell? ⟨gb131, 1, none⟩ = some (.int .i64 a0_1) := (blk_cell BK131.out 1).trans rfl
             have hcz37_2 : wc.cell? ⟨gb131, 2, none⟩ = some (.slice A0_2 l0_2.length c0_2) := (blk_cell BK131.out 2).trans rfl
             have hfz37_0 := blk_frozen BK131.out 0
             have hfz37_1 := blk_frozen BK131.out 1
             have hfz37_2 := blk_frozen BK131.out 2
             have hnb38 := NB135_132.out
             have hnc38 := NB132_135.out
             have hcz39_0 : wc.cell? ⟨gb135, 0, none⟩ = some (.int .i64 (wrap64 (1 + t133))) := (blk_cell BK135.out 0).trans rfl
             have hcz39_1 : wc.cell? ⟨gb135, 1, none⟩ = some (.int .i64 ji6) := (blk_cell BK135.out 1).trans rfl
             have hcz39_2 : wc.cell? ⟨gb135, 2, none⟩ = some (u136002) := (blk_cell BK135.out 2).trans rfl
             have hfz39_0 := blk_frozen BK135.out 0
             have hfz39_1 := blk_frozen BK135.out 1
             have hfz39_2 := blk_frozen BK135.out 2
             go_wp2_with (first | ((with_reducible refine gate_builtin (b := .append) (xs := #[.tmp 43, .tmp 45]) rfl ?_); at_builtin; refine Kd.R_append (Kd.int .i64) (w0 := w) w.heap.size rfl (.tmp 43) (.tmp 45) 22 3 (.int .i64 0) 8 rfl Try.underlying22 info3 rfl (by decide) (by omega) u136002 x136002_1 x6_1 [.int .i64 x6_1] (fun _ => True) (fun _ => False) rfl rfl ?aP (fun _ hk => hk.elim) ?aF ?aO ?aB ?aS ?aL ?_; (case aP => exact rfl); (case aB => exact (by repeat (first | (with_reducible first | exact HB.out | apply below_alloc | apply pw_below_drewN | apply below_drew1 | refine below_set ?_ (Aside0.out (by assumption))) | exact HB.out))); (case aF => exact (fun _ _ => trivial)); (case aO => exact (qR HO_136002.out)); (case aS => exact (below_size (by repeat (first | (with_reducible first | exact HB.out | apply below_alloc | apply pw_below_drewN | apply below_drew1 | refine below_set ?_ (Aside0.out (by assumption))) | exact HB.out)))); (case aL => have := LMc34.out; omega); intro v142 w40 ho hb hg hat; rw [← Ny141.out] at ho; have n0_ := Aside0.mk (blk_grown (qB BK131.out) hg (Kd.R_ne HO_136002.out BK131.out (by decide))); have n1_ := Aside0.mk (blk_grown (qB BK132.out) hg (Kd.R_ne HO_136002.out BK132.out (by decide))); have n2_ := Aside0.mk (blk_grown (g := gb135) (o := .cells #[.int .i64 (wrap64 (1 + t133)), .int .i64 ji6, u136002] 24 (0, 0)) (qB BK135.out) hg (Kd.R_ne HO_136002.out BK135.out (by decide))); have n3_ := Aside0.mk (hb); have n4_ := Aside0.mk (ho); clear BK131; clear BK132; clear BK135; clear HB; clear HO_136002; have BK131 := n0_; have BK132 := n1_; have BK135 := n2_; have HB := n3_; have HO143 := n4_; clear n0_ n1_ n2_ n3_ n4_; clear ho hb hg hat; obtain ⟨Ao41, co41, eo41⟩ := Kd.R_slice HO143.out; subst eo41; have hcz42_0 : w40.cell? ⟨gb135, 0, none⟩ = some (.int .i64 (wrap64 (1 + t133))) := (blk_cell BK135.out 0).trans rfl; have hcz42_1 : w40.cell? ⟨gb135, 1, none⟩ = some (.int .i64 ji6) := (blk_cell BK135.out 1).trans rfl; have hcz42_2 : w40.cell? ⟨gb135, 2, none⟩ = some (u136002) := (blk_cell BK135.out 2).trans rfl; have hfz42_0 := blk_frozen BK135.out 0; have hfz42_1 := blk_frozen BK135.out 1; have hfz42_2 := blk_frozen BK135.out 2))
             go_roundg kj17
             case measure => have := HK1.out; have := HJ17.out; omega
             case rel => exact ⟨(wrap64 (x6_1 - x6_1)), (wrap64 (x7_1 + 1)), (y141), (.slice Ao41 y141.length co41), (by first | rfl | (simp; done) | (simp [*]; done) | (simp [wrap64]; done)), (by first | rfl | (simp; done) | (simp [*]; done) | (simp [wrap64]; done)), H', ⟨by have := HK1.out; have := HJ17.out; omega⟩, ⟨by (with_reducible repeat (first | apply Kd.R_alloc | apply Kd.R_drewN | apply Kd.R_drew)); exact Kd.R_mono (Kd.R_far (p := ⟨gb135, 2, none⟩) (Kd.R_types HO143.out BK135.out (by decide)) (fun _ hk => hk.2) (.slice Ao41 y141.length co41)) (fun _ hk => trivial)⟩, ⟨by (with_reducible repeat (first | refine blk_drewN ?_ _ | refine blk_drew ?_ | refine blk_alloc ?_ _)); refine blk_far ?_ NB131_135.out _; (with_reducible repeat (first | refine blk_drewN ?_ _ | refine blk_drew ?_ | refine blk_alloc ?_ _)); exact BK131.out⟩, ⟨by (with_reducible repeat (first | refine blk_drewN ?_ _ | refine blk_drew ?_ | refine blk_alloc ?_ _)); refine blk_far ?_ NB132_135.out _; (with_reducible repeat (first | refine blk_drewN ?_ _ | refine blk_drew ?_ | refine blk_alloc ?_ _)); exact BK132.out⟩, ⟨by (with_reducible repeat (first | refine blk_drewN ?_ _ | refine blk_drew ?_ | refine blk_alloc ?_ _)); refine blk_put (cs := #[.int .i64 (wrap64 (1 + t133)), .int .i64 ji6, u136002]) ?_ 2 _ rfl; (with_reducible repeat (first | refine blk_drewN ?_ _ | refine blk_drew ?_ | refine blk_alloc ?_ _)); exact BK135.out⟩, ⟨by repeat (first | (with_reducible first | exact HB.out | apply below_alloc | apply pw_below_drewN | apply below_drew1 | refine below_set ?_ (Aside0.out (by assumption))) | exact HB.out)⟩⟩
           · rw [if_neg c34] at H
             exact absurd H (by simp)
       · replace c20 := Bool.eq_false_iff.mpr c20
         subst c20
         have H1 : (some ((wrap64 (1 + t133)), ji6, x136002_1)) = some (r1, r2, r3) := by rw [if_neg (show ¬ (false = true) by decide)] at H; exact H
         clear H
         have H := H1
         clear H1
         simp only [Option.some.injEq, Prod.mk.injEq] at H
         obtain ⟨rfl, rfl, rfl⟩ := H
         have hnb43 := NB135_131.out
         have hnc43 := NB131_135.out
         have hnb44 := NB135_132.out
         have hnc44 := NB132_135.out
         have hcz45_0 : wc.cell? ⟨gb135, 0, none⟩ = some (.int .i64 (wrap64 (1 + t133))) := (blk_cell BK135.out 0).trans rfl
         have hcz45_1 : wc.cell? ⟨gb135, 1, none⟩ = some (.int .i64 ji6) := (blk_cell BK135.out 1).trans rfl
         have hcz45_2 : wc.cell? ⟨gb135, 2, none⟩ = some (u136002) := (blk_cell BK135.out 2).trans rfl
         have hfz45_0 := blk_frozen BK135.out 0
         have hfz45_1 := blk_frozen BK135.out 1
         have hfz45_2 := blk_frozen BK135.out 2
         have hnb46 := NB132_131.out
         have hnc46 := NB131_132.out
         have hcz47_0 : wc.cell? ⟨gb132, 0, none⟩ = some (.int .i64 0) := (blk_cell BK132.out 0).trans rfl
         have hcz47_1 : wc.cell? ⟨gb132, 1, none⟩ = some (.int .i64 0) := (blk_cell BK132.out 1).trans rfl
         have hcz47_2 : wc.cell? ⟨gb132, 2, none⟩ = some (.slice none 0 0) := (blk_cell BK132.out 2).trans rfl
         have hfz47_0 := blk_frozen BK132.out 0
         have hfz47_1 := blk_frozen BK132.out 1
         have hfz47_2 := blk_frozen BK132.out 2
         obtain ⟨Ao48, co48, eo48⟩ := Kd.R_slice HO_136002.out
         subst eo48
         go_wp2
         refine bodyPost_ret (results_cell_row rfl _ _ gb132 24 #[.int .i64 (wrap64 (1 + t133)), .int .i64 ji6, .slice Ao48 x136002_1.length co48] (0, 0) _ rfl (by (with_reducible repeat (first | refine blk_drewN ?_ _ | refine blk_drew ?_ | refine blk_alloc ?_ _)); refine blk_put (cs := #[.int .i64 (wrap64 (1 + t133)), .int .i64 ji6, .slice none 0 0]) ?_ 2 _ rfl; (with_reducible repeat (first | refine blk_drewN ?_ _ | refine blk_drew ?_ | refine blk_alloc ?_ _)); refine blk_put (cs := #[.int .i64 (wrap64 (1 + t133)), .int .i64 0, .slice none 0 0]) ?_ 1 _ rfl; (with_reducible repeat (first | refine blk_drewN ?_ _ | refine blk_drew ?_ | refine blk_alloc ?_ _)); refine blk_put (cs := #[.int .i64 0, .int .i64 0, .slice none 0 0]) ?_ 0 _ rfl; (with_reducible repeat (first | refine blk_drewN ?_ _ | refine blk_drew ?_ | refine blk_alloc ?_ _)); exact BK132.out) Try.underlying24 rfl (by kernel_rfl)) rfl ?_
         exact ⟨_, by first | rfl | (simp [errW_none, errW_some] <;> rfl) | (simp only [← hji6]; first | rfl | (simp [errW_none, errW_some] <;> rfl)) | (simp [*, errW_none, errW_some] <;> rfl), by (with_reducible repeat (first | apply Kd.R_alloc | apply Kd.R_drewN | apply Kd.R_drew)); exact Kd.R_mono (Kd.R_far (p := ⟨gb132, 2, none⟩) (Kd.R_far (p := ⟨gb132, 1, none⟩) (Kd.R_far (p := ⟨gb132, 0, none⟩) (Kd.R_types HO_136002.out BK132.out (by decide)) (fun _ hk => hk.2) (.int .i64 (wrap64 (1 + t133)))) (fun _ hk => hk.2) (.int .i64 ji6)) (fun _ hk => hk.2) (.slice Ao48 x136002_1.length co48)) (fun _ hk => trivial), by repeat (first | (with_reducible first | exact HB.out | apply below_alloc | apply pw_below_drewN | apply below_drew1 | refine below_set ?_ (Aside0.out (by assumption))) | exact HB.out)⟩
 · rw [if_neg c5] at H
   exact absurd H (by simp)

end Go.Proofs.Ytbncdlnnjhadgaa.Q
