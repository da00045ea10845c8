-- Written by a program of this session (myprint.py), function by function.
import Derived.Test.YtchjlkokfgmjaaaQ0
import Derived.Test.YtchjlkokfgmjaaaQ1
import Derived.Test.YtchjlkokfgmjaaaQ2
import Derived.Test.YtchjlkokfgmjaaaQ5
import Derived.Test.YtchjlkokfgmjaaaQ6
import Derived.Test.YtchjlkokfgmjaaaQ7
import Derived.Test.YtchjlkokfgmjaaaQ8
import Derived.Test.YtchjlkokfgmjaaaQ10
namespace Go.Proofs.Ytchjlkokfgmjaaa.Q
open Go.RowKit Go.Proofs.YtchjlkokfgmjaaaW.PrintWords Go.Proofs.YtchjlkokfgmjaaaW.PrintLast Go.Proofs.YtchjlkokfgmjaaaW.PrintMore
attribute [local go_sem] max2_int min2_int max_two min_two max_three min_three max_four min_four   -- for this text's walks alone
set_option linter.unusedVariables false
set_option linter.unusedSimpArgs false

attribute [local go_sem high] eqA27
/-! ### partitalaw11_TempoSplit: function 8 -/
mutual
def partitalaw11_TempoSplit.j1 : Nat → Bool → List (S36) → Int → Int → Int → Int → Int → Option (Bool)
  | 0, _, _, _, _, _, _, _ => none
  | k + 1, x7, x8, x11, x267000, x267001, x270000, x270001 => if x11 > 0 then (if 0 ≤ (wrap64 (x11 - 1)) then (if (wrap64 (x11 - 1)) < (x8.length : Int) then (if (((rd_T36 x8 (wrap64 (x11 - 1))).f0.f0) == x267000 && (((rd_T36 x8 (wrap64 (x11 - 1))).f0.f1) == x267001)) = true then (some x7) else (if (rd_T36 x8 (wrap64 (x11 - 1))).f2 = true then (some x7) else (partitalaw11_TempoSplit.j2 k x7 x8 x11 x270000 x270001 x267000 x267001 ((rd_T36 x8 (wrap64 (x11 - 1))).f1) false))) else (none)) else (none)) else (partitalaw11_TempoSplit.j2 k x7 x8 x11 x270000 x270001 x267000 x267001 500000 false)
def partitalaw11_TempoSplit.j2 : Nat → Bool → List (S36) → Int → Int → Int → Int → Int → Int → Bool → Option (Bool)
  | 0, _, _, _, _, _, _, _, _, _ => none
  | k + 1, x7, x8, x11, x270000, x270001, x273000, x273001, x273002, x273003 => if 0 ≤ x11 then (if x11 ≤ (x8.length : Int) then ((some (x8.take (x11 : Int).toNat : List (S36))).bind fun y276 => (if ([] : List (S36)).length + y276.length < 4398046511104 then ((some (([] : List (S36)) ++ y276 : List (S36))).bind fun y280 => ((some (([(⟨(⟨x273000, x273001⟩ : S27), x273002, x273003⟩ : S36)] : List (S36)) : List (S36))).bind fun y283 => (if y280.length + y283.length < 4398046511104 then ((some (y280 ++ y283 : List (S36))).bind fun y286 => ((some (x8.drop (x11 : Int).toNat : List (S36))).bind fun y289 => (if y286.length + y289.length < 4398046511104 then ((some (y286 ++ y289 : List (S36))).bind fun y293 => ((tempo_Check.f k y293).bind fun bt296 => ((tempo_Rate.f k x8 x270000 x270001).bind fun bt298 => ((tempo_Rate.f k y293 x270000 x270001).bind fun bt300 => ((tempo_Micros.f k x8 x270000 x270001).bind fun bt302 => ((tempo_Micros.f k y293 x270000 x270001).bind fun bt304 => (if x7 = true then (if bt296.2 = 0 then (if bt298.2 = 0 then (if bt300.2 = 0 then (if bt302.2 = 0 then (if bt304.2 = 0 then (if bt298.1 = bt300.1 then (if bt302.1 = bt304.1 then (some true) else (some (bt302.1 == (wrap64 (bt304.1 + 1))))) else none) else none) else none) else none) else none) else none) else none))))))) else (none)))) else (none)))) else (none))) else (none)) else (none)
def partitalaw11_TempoSplit.l0 : Nat → Bool → List (S36) → Int → Int → Int → Int → Int → Option (Bool)
  | 0, _, _, _, _, _, _, _ => none
  | k + 1, x7, x8, x11, x267000, x267001, x270000, x270001 => if x11 < (x8.length : Int) then (if 0 ≤ x11 then ((ratio_Compare.f ((rd_T36 x8 x11).f0.f0) ((rd_T36 x8 x11).f0.f1) x267000 x267001).bind fun t271 => (if t271 ≤ 0 then (partitalaw11_TempoSplit.l0 k x7 x8 (wrap64 (x11 + 1)) x267000 x267001 x270000 x270001) else (partitalaw11_TempoSplit.j1 k x7 x8 x11 x267000 x267001 x270000 x270001))) else (none)) else (partitalaw11_TempoSplit.j1 k x7 x8 x11 x267000 x267001 x270000 x270001)
end
def partitalaw11_TempoSplit.f (k : Nat) (l0 : List (S36)) (a1 : Int) (a2 : Int) : Option (Bool) := (partitalaw11_awake.f k).bind fun t260 => ((partitalaw11_Map.f k l0).bind fun t261 => ((partitalaw11_place.f k a1).bind fun bt264 => ((partitalaw11_place.f k a2).bind fun bt267 => (partitalaw11_TempoSplit.l0 k t260 t261 0 bt264.1 bt264.2 bt267.1 bt267.2))))
theorem partitalaw11_TempoSplit.mono_l : ∀ k, (∀ y0 y1 y2 y3 y4 y5 y6, LeO (partitalaw11_TempoSplit.j1 k y0 y1 y2 y3 y4 y5 y6) (partitalaw11_TempoSplit.j1 (k + 1) y0 y1 y2 y3 y4 y5 y6)) ∧ (∀ y0 y1 y2 y3 y4 y5 y6 y7 y8, LeO (partitalaw11_TempoSplit.j2 k y0 y1 y2 y3 y4 y5 y6 y7 y8) (partitalaw11_TempoSplit.j2 (k + 1) y0 y1 y2 y3 y4 y5 y6 y7 y8)) ∧ (∀ y0 y1 y2 y3 y4 y5 y6, LeO (partitalaw11_TempoSplit.l0 k y0 y1 y2 y3 y4 y5 y6) (partitalaw11_TempoSplit.l0 (k + 1) y0 y1 y2 y3 y4 y5 y6))
  | 0 => ⟨fun _ _ _ _ _ _ _ r h => by simp [partitalaw11_TempoSplit.j1] at h, fun _ _ _ _ _ _ _ _ _ r h => by simp [partitalaw11_TempoSplit.j2] at h, fun _ _ _ _ _ _ _ r h => by simp [partitalaw11_TempoSplit.l0] at h⟩
  | k + 1 => by
    obtain ⟨ih0, ih1, ih2⟩ := partitalaw11_TempoSplit.mono_l k
    refine ⟨?_, ?_, ?_⟩
    · intro y0 y1 y2 y3 y4 y5 y6
      unfold partitalaw11_TempoSplit.j1
      repeat' first
      | (with_reducible exact ih0 _ _ _ _ _ _ _)
      | (with_reducible exact ih1 _ _ _ _ _ _ _ _ _)
      | (with_reducible exact ih2 _ _ _ _ _ _ _)
      | (with_reducible exact partitalaw11_Map.mono _ _)
      | (with_reducible exact partitalaw11_awake.mono _)
      | (with_reducible exact partitalaw11_place.mono _ _)
      | (with_reducible exact tempo_Check.mono _ _)
      | (with_reducible exact tempo_Micros.mono _ _ _ _)
      | (with_reducible exact tempo_Rate.mono _ _ _ _)
      | (with_reducible exact LeO.refl _)
      | (with_reducible exact LeO.none _)
      | (with_reducible refine LeO.ite ?_ ?_)
      | (with_reducible refine LeO.bind ?_ (fun _ => ?_))
      | exact ih0 _ _ _ _ _ _ _
      | exact ih1 _ _ _ _ _ _ _ _ _
      | exact ih2 _ _ _ _ _ _ _
      | exact partitalaw11_Map.mono _ _
      | exact partitalaw11_awake.mono _
      | exact partitalaw11_place.mono _ _
      | exact tempo_Check.mono _ _
      | exact tempo_Micros.mono _ _ _ _
      | exact tempo_Rate.mono _ _ _ _
      | exact LeO.none _
      | refine LeO.ite ?_ ?_
      | refine LeO.bind ?_ (fun _ => ?_)
    · intro y0 y1 y2 y3 y4 y5 y6 y7 y8
      unfold partitalaw11_TempoSplit.j2
      repeat' first
      | (with_reducible exact ih0 _ _ _ _ _ _ _)
      | (with_reducible exact ih1 _ _ _ _ _ _ _ _ _)
      | (with_reducible exact ih2 _ _ _ _ _ _ _)
      | (with_reducible exact partitalaw11_Map.mono _ _)
      | (with_reducible exact partitalaw11_awake.mono _)
      | (with_reducible exact partitalaw11_place.mono _ _)
      | (with_reducible exact tempo_Check.mono _ _)
      | (with_reducible exact tempo_Micros.mono _ _ _ _)
      | (with_reducible exact tempo_Rate.mono _ _ _ _)
      | (with_reducible exact LeO.refl _)
      | (with_reducible exact LeO.none _)
      | (with_reducible refine LeO.ite ?_ ?_)
      | (with_reducible refine LeO.bind ?_ (fun _ => ?_))
      | exact ih0 _ _ _ _ _ _ _
      | exact ih1 _ _ _ _ _ _ _ _ _
      | exact ih2 _ _ _ _ _ _ _
      | exact partitalaw11_Map.mono _ _
      | exact partitalaw11_awake.mono _
      | exact partitalaw11_place.mono _ _
      | exact tempo_Check.mono _ _
      | exact tempo_Micros.mono _ _ _ _
      | exact tempo_Rate.mono _ _ _ _
      | exact LeO.none _
      | refine LeO.ite ?_ ?_
      | refine LeO.bind ?_ (fun _ => ?_)
    · intro y0 y1 y2 y3 y4 y5 y6
      unfold partitalaw11_TempoSplit.l0
      repeat' first
      | (with_reducible exact ih0 _ _ _ _ _ _ _)
      | (with_reducible exact ih1 _ _ _ _ _ _ _ _ _)
      | (with_reducible exact ih2 _ _ _ _ _ _ _)
      | (with_reducible exact partitalaw11_Map.mono _ _)
      | (with_reducible exact partitalaw11_awake.mono _)
      | (with_reducible exact partitalaw11_place.mono _ _)
      | (with_reducible exact tempo_Check.mono _ _)
      | (with_reducible exact tempo_Micros.mono _ _ _ _)
      | (with_reducible exact tempo_Rate.mono _ _ _ _)
      | (with_reducible exact LeO.refl _)
      | (with_reducible exact LeO.none _)
      | (with_reducible refine LeO.ite ?_ ?_)
      | (with_reducible refine LeO.bind ?_ (fun _ => ?_))
      | exact ih0 _ _ _ _ _ _ _
      | exact ih1 _ _ _ _ _ _ _ _ _
      | exact ih2 _ _ _ _ _ _ _
      | exact partitalaw11_Map.mono _ _
      | exact partitalaw11_awake.mono _
      | exact partitalaw11_place.mono _ _
      | exact tempo_Check.mono _ _
      | exact tempo_Micros.mono _ _ _ _
      | exact tempo_Rate.mono _ _ _ _
      | exact LeO.none _
      | refine LeO.ite ?_ ?_
      | refine LeO.bind ?_ (fun _ => ?_)
theorem partitalaw11_TempoSplit.mono : ∀ a0 a1 a2 k, LeO (partitalaw11_TempoSplit.f k a0 a1 a2) (partitalaw11_TempoSplit.f (k + 1) a0 a1 a2) := by
  intro a0 a1 a2 k
  obtain ⟨ih0, ih1, ih2⟩ := partitalaw11_TempoSplit.mono_l k
  unfold partitalaw11_TempoSplit.f
  repeat' first
      | (with_reducible exact ih0 _ _ _ _ _ _ _)
      | (with_reducible exact ih1 _ _ _ _ _ _ _ _ _)
      | (with_reducible exact ih2 _ _ _ _ _ _ _)
      | (with_reducible exact partitalaw11_Map.mono _ _)
      | (with_reducible exact partitalaw11_awake.mono _)
      | (with_reducible exact partitalaw11_place.mono _ _)
      | (with_reducible exact tempo_Check.mono _ _)
      | (with_reducible exact tempo_Micros.mono _ _ _ _)
      | (with_reducible exact tempo_Rate.mono _ _ _ _)
      | (with_reducible exact LeO.refl _)
      | (with_reducible exact LeO.none _)
      | (with_reducible refine LeO.ite ?_ ?_)
      | (with_reducible refine LeO.bind ?_ (fun _ => ?_))
      | exact ih0 _ _ _ _ _ _ _
      | exact ih1 _ _ _ _ _ _ _ _ _
      | exact ih2 _ _ _ _ _ _ _
      | exact partitalaw11_Map.mono _ _
      | exact partitalaw11_awake.mono _
      | exact partitalaw11_place.mono _ _
      | exact tempo_Check.mono _ _
      | exact tempo_Micros.mono _ _ _ _
      | exact tempo_Rate.mono _ _ _ _
      | exact LeO.none _
      | refine LeO.ite ?_ ?_
      | refine LeO.bind ?_ (fun _ => ?_)
def partitalaw11_TempoSplit.T6 : Bool × List (List Nat × List Nat) := (true, [([], []), ([], []), ([1], [1]), ([0, 2], [0, 2]), ([3], [3]), ([4], [4]), ([4], [4]), ([5, 6, 4], [4, 5, 6]), ([7, 4], [4, 7]), ([8, 4], [4, 8]), ([4], [4]), ([9, 10, 4, 4], [4, 9, 10]), ([11, 4], [4, 11]), ([4, 12], [4, 12])])
def partitalaw11_TempoSplit.B6 : List Nat := [0, 0, 2, 7, 15, 31, 31, 127, 255, 511, 31, 2047, 4095, 8191]
theorem partitalaw11_TempoSplit.tab6 : rtab .any (opsOf Try.f8 6) = partitalaw11_TempoSplit.T6 := by kernel_rfl
theorem partitalaw11_TempoSplit.bits6 : waitsOk partitalaw11_TempoSplit.T6.2 partitalaw11_TempoSplit.B6 = true := by kernel_rfl
def partitalaw11_TempoSplit.T10 : Bool × List (List Nat × List Nat) := (true, [([], []), ([], []), ([1], [1]), ([0, 2], [0, 2]), ([3], [3]), ([4], [4]), ([], []), ([5, 6], [5, 6]), ([7], [7]), ([8], [8]), ([8], [8]), ([10, 8], [8, 10]), ([9, 11, 8], [8, 9, 11]), ([12, 8], [8, 12]), ([13, 8], [8, 13]), ([8, 14], [8, 14])])
def partitalaw11_TempoSplit.B10 : List Nat := [0, 0, 2, 7, 15, 31, 0, 127, 255, 511, 511, 1535, 4095, 8191, 16383, 32767]
theorem partitalaw11_TempoSplit.tab10 : rtab .any (opsOf Try.f8 10) = partitalaw11_TempoSplit.T10 := by kernel_rfl
theorem partitalaw11_TempoSplit.bits10 : waitsOk partitalaw11_TempoSplit.T10.2 partitalaw11_TempoSplit.B10 = true := by kernel_rfl
def partitalaw11_TempoSplit.T13 : Bool × List (List Nat × List Nat) := (true, [([], []), ([], []), ([0, 1], [0, 1]), ([2], [2]), ([], []), ([4], [4]), ([3, 5, 3], [3, 5]), ([], []), ([], []), ([7, 8], [7, 8]), ([6, 9, 6], [6, 9]), ([10, 10, 0, 1, 2, 3, 4, 5, 6, 7, 8, 9, 10], [10])])
def partitalaw11_TempoSplit.B13 : List Nat := [0, 0, 3, 7, 0, 16, 63, 0, 0, 384, 1023, 2047]
theorem partitalaw11_TempoSplit.tab13 : rtab .any (opsOf Try.f8 13) = partitalaw11_TempoSplit.T13 := by kernel_rfl
theorem partitalaw11_TempoSplit.bits13 : waitsOk partitalaw11_TempoSplit.T13.2 partitalaw11_TempoSplit.B13 = true := by kernel_rfl
set_option maxHeartbeats 8000000 in
set_option maxRecDepth 100000 in
theorem partitalaw11_TempoSplit.calls (k : Nat) (A0 : Option Addr) (c0 : Nat) (l0 : List (S36)) (a1 : Int) (a2 : Int) (r : Bool) (w : World) (hr0 : Kd.C k36 w A0 l0.length l0) (hc0 : l0.length ≤ c0) (h : partitalaw11_TempoSplit.f k l0 a1 a2 = some r) :
    Calls Try.prog 8 #[.slice A0 l0.length c0, .int .i64 a1, .int .i64 a2] w fun e w' => e = .returned (.bool r) ∧ Below w.heap.size w w' := by
  have hu27 := Try.underlying27
  have hu36 := Try.underlying36
  have HR0 := Aside0.mk hr0
  have HC0 := Aside0.mk hc0
  clear hr0 hc0
  have HB := Aside0.mk (Below.refl w.heap.size w)
  have H : ((partitalaw11_awake.f k).bind fun t260 => ((partitalaw11_Map.f k l0).bind fun t261 => ((partitalaw11_place.f k a1).bind fun bt264 => ((partitalaw11_place.f k a2).bind fun bt267 => (partitalaw11_TempoSplit.l0 k t260 t261 0 bt264.1 bt264.2 bt267.1 bt267.2))))) = some r := h
  clear h
  replace H := Option.bind_eq_some_iff.mp H
  obtain ⟨t260, A40, H⟩ := H
  replace H : ((partitalaw11_Map.f k l0).bind fun t261 => ((partitalaw11_place.f k a1).bind fun bt264 => ((partitalaw11_place.f k a2).bind fun bt267 => (partitalaw11_TempoSplit.l0 k t260 t261 0 bt264.1 bt264.2 bt267.1 bt267.2)))) = some r := H
  have A4 := Aside0.mk A40
  clear A40
  replace H := Option.bind_eq_some_iff.mp H
  obtain ⟨t261, A50, H⟩ := H
  replace H : ((partitalaw11_place.f k a1).bind fun bt264 => ((partitalaw11_place.f k a2).bind fun bt267 => (partitalaw11_TempoSplit.l0 k t260 t261 0 bt264.1 bt264.2 bt267.1 bt267.2))) = some r := H
  have A5 := Aside0.mk A50
  clear A50
  replace H := Option.bind_eq_some_iff.mp H
  obtain ⟨⟨t264, t265⟩, A60, H⟩ := H
  replace H : ((partitalaw11_place.f k a2).bind fun bt267 => (partitalaw11_TempoSplit.l0 k t260 t261 0 t264 t265 bt267.1 bt267.2)) = some r := H
  have A6 := Aside0.mk A60
  clear A60
  replace H := Option.bind_eq_some_iff.mp H
  obtain ⟨⟨t267, t268⟩, A70, H⟩ := H
  replace H : (partitalaw11_TempoSplit.l0 k t260 t261 0 t264 t265 t267 t268) = some r := H
  have A7 := Aside0.mk A70
  clear A70
  have HC8 := Aside0.mk H
  clear H
  go_enter Try.func8, Try.ntmps8
  go_upto_block 0 with (first | ((with_reducible refine gate_callee (f := 11) rfl ?_); refine goesL_ (some 24) rfl rfl Try.func11 (by kernel_rfl) rfl #[] rfl (by (try simp only [List.map_toArray, List.map_cons, List.map_nil]); first | done | rfl | (simp only [List.length_drop, List.length_take]; rfl)) ?_; (with_reducible refine (partitalaw11_awake.calls k  t260 _ A4.out).mono ?_); rintro e w9 ⟨rfl, hb⟩; refine ⟨_, rfl, ?_⟩; have n0_ := Aside0.mk (below_step (by repeat (first | (with_reducible first | exact HB.out | apply below_alloc | apply pw_below_drewN | apply below_drew1) | exact HB.out)) hb); clear HB; have HB := n0_; clear n0_; (try clear hb); (try clear hb2); (try clear hk); (try clear hi)) | ((with_reducible refine gate_callee (f := 12) rfl ?_); refine goesL_ (some 26) rfl rfl Try.func12 (by kernel_rfl) rfl #[.slice A0 l0.length c0] rfl (by (try simp only [List.map_toArray, List.map_cons, List.map_nil]); first | done | rfl | (simp only [List.length_drop, List.length_take]; rfl)) ?_; (with_reducible refine (partitalaw11_Map.calls k _ _ l0 t261 _ ?side1 ?side2 A5.out).mono ?_); (case side1 => repeat (first | exact (Kd.C_below HR0.out HB.out) | (with_reducible refine Kd.C_alloc ?_ _) | (with_reducible refine Kd.C_drewN ?_ _) | (with_reducible refine Kd.C_drew ?_))); (case side2 => exact HC0.out); rintro e w10 ⟨v262, rfl, ho0, hb⟩; refine ⟨_, rfl, ?_⟩; have n0_ := Aside0.mk (Kd.R_lower ho0 (below_size (by repeat (first | (with_reducible first | exact HB.out | apply below_alloc | apply pw_below_drewN | apply below_drew1) | exact HB.out)))); have n1_ := Aside0.mk (below_step (by repeat (first | (with_reducible first | exact HB.out | apply below_alloc | apply pw_below_drewN | apply below_drew1) | exact HB.out)) hb); clear HB; have HO263 := n0_; have HB := n1_; clear n0_ n1_; (try clear hb); (try clear hb2); (try clear hk); (try clear hi); (try clear ho0)) | ((with_reducible refine gate_callee (f := 16) rfl ?_); refine goesL_ (some 28) rfl rfl Try.func16 (by kernel_rfl) rfl #[.int .i64 a1] rfl (by (try simp only [List.map_toArray, List.map_cons, List.map_nil]); first | done | rfl | (simp only [List.length_drop, List.length_take]; rfl)) ?_; (with_reducible refine (partitalaw11_place.calls k a1 t264 t265 _ A6.out).mono ?_); rintro e w11 ⟨rfl, hb⟩; refine ⟨_, rfl, ?_⟩; have n0_ := Aside0.mk (Kd.R_below (by (with_reducible repeat (first | apply Kd.R_alloc | apply Kd.R_drewN | apply Kd.R_drew)); exact HO263.out) hb); have n1_ := Aside0.mk (below_step (by repeat (first | (with_reducible first | exact HB.out | apply below_alloc | apply pw_below_drewN | apply below_drew1) | exact HB.out)) hb); clear HO263; clear HB; have HO263 := n0_; have HB := n1_; clear n0_ n1_; (try clear hb); (try clear hb2); (try clear hk); (try clear hi)) | ((with_reducible refine gate_dst (N := 9) rfl ?_); refine box_event ?hg (N := 9) ?hd (cs := #[.int .i64 0, .int .i64 0]) (t := 27) ?hr ?_; (case hd => rfl); (case hg => rfl); (case hr => first | (go_simp; done) | (go_simp; rfl)); intro gb266 hg w12 hbox hb; have n0_ := Aside0.mk (Kd.R_below (by (with_reducible repeat (first | apply Kd.R_alloc | apply Kd.R_drewN | apply Kd.R_drew)); exact HO263.out) hb); have n1_ := Aside0.mk (below_step (by repeat (first | (with_reducible first | exact HB.out | apply below_alloc | apply pw_below_drewN | apply below_drew1) | exact HB.out)) hb); have n2_ := Aside0.mk (hbox); have n3_ := Aside0.mk ((by rw [hg]; exact (below_size (by repeat (first | (with_reducible first | exact HB.out | apply below_alloc | apply pw_below_drewN | apply below_drew1) | exact HB.out))) : w.heap.size ≤ gb266)); have n4_ := Aside0.mk ((by rw [hg]; exact (below_size (by repeat (first | (with_reducible first | exact HB.out | apply below_alloc | apply pw_below_drewN | apply below_drew1) | exact HB.out))) : w.heap.size ≤ gb266)); clear HO263; clear HB; have HO263 := n0_; have HB := n1_; have BK266 := n2_; have GW266 := n3_; have GE266 := n4_; clear n0_ n1_ n2_ n3_ n4_; clear hb hbox hg; have hcz13_0 : w12.cell? ⟨gb266, 0, none⟩ = some (.int .i64 0) := (blk_cell BK266.out 0).trans rfl; have hcz13_1 : w12.cell? ⟨gb266, 1, none⟩ = some (.int .i64 0) := (blk_cell BK266.out 1).trans rfl; have hfz13_0 := blk_frozen BK266.out 0; have hfz13_1 := blk_frozen BK266.out 1) | ((with_reducible refine gate_callee (f := 16) rfl ?_); refine goesL_ (some 30) rfl rfl Try.func16 (by kernel_rfl) rfl #[.int .i64 a2] rfl (by (try simp only [List.map_toArray, List.map_cons, List.map_nil]); first | done | rfl | (simp only [List.length_drop, List.length_take]; rfl)) ?_; (with_reducible refine (partitalaw11_place.calls k a2 t267 t268 _ A7.out).mono ?_); rintro e w14 ⟨rfl, hb⟩; refine ⟨_, rfl, ?_⟩; have n0_ := Aside0.mk (Kd.R_below (by (with_reducible repeat (first | apply Kd.R_alloc | apply Kd.R_drewN | apply Kd.R_drew)); exact (Kd.R_mono (Kd.R_far (p := ⟨gb266, 1, none⟩) (Kd.R_far (p := ⟨gb266, 0, none⟩) (Kd.R_types HO263.out BK266.out (by decide)) (fun _ hk => hk.2) (.int .i64 t264)) (fun _ hk => hk.2) (.int .i64 t265)) (fun _ h_ => h_.1))) hb); have n1_ := Aside0.mk (blk_below (g := gb266) (o := .cells #[.int .i64 t264, .int .i64 t265] 27 (0, 0)) (by (with_reducible repeat (first | refine blk_drewN ?_ _ | refine blk_drew ?_ | refine blk_alloc ?_ _)); refine blk_put (cs := #[.int .i64 t264, .int .i64 0]) ?_ 1 _ rfl; (with_reducible repeat (first | refine blk_drewN ?_ _ | refine blk_drew ?_ | refine blk_alloc ?_ _)); refine blk_put (cs := #[.int .i64 0, .int .i64 0]) ?_ 0 _ rfl; (with_reducible repeat (first | refine blk_drewN ?_ _ | refine blk_drew ?_ | refine blk_alloc ?_ _)); exact BK266.out) hb); have n2_ := Aside0.mk (below_step (by repeat (first | (with_reducible first | exact HB.out | apply below_alloc | apply pw_below_drewN | apply below_drew1 | refine below_set ?_ GE266.out) | exact HB.out)) hb); clear HO263; clear BK266; clear HB; have HO263 := n0_; have BK266 := n1_; have HB := n2_; clear n0_ n1_ n2_; (try clear hb); (try clear hb2); (try clear hk); (try clear hi)) | ((with_reducible refine gate_dst (N := 10) rfl ?_); refine box_event ?hg (N := 10) ?hd (cs := #[.int .i64 0, .int .i64 0]) (t := 27) ?hr ?_; (case hd => rfl); (case hg => rfl); (case hr => first | (go_simp; done) | (go_simp; rfl)); intro gb269 hg w15 hbox hb; have n0_ := Aside0.mk (Kd.R_below (by (with_reducible repeat (first | apply Kd.R_alloc | apply Kd.R_drewN | apply Kd.R_drew)); exact HO263.out) hb); have n1_ := Aside0.mk (blk_below (g := gb266) (o := .cells #[.int .i64 t264, .int .i64 t265] 27 (0, 0)) (by (with_reducible repeat (first | refine blk_drewN ?_ _ | refine blk_drew ?_ | refine blk_alloc ?_ _)); exact BK266.out) hb); have n2_ := Aside0.mk (below_step (by repeat (first | (with_reducible first | exact HB.out | apply below_alloc | apply pw_below_drewN | apply below_drew1 | refine below_set ?_ GE266.out) | exact HB.out)) hb); have n3_ := Aside0.mk (hbox); have n4_ := Aside0.mk ((by rw [hg]; exact (below_size (by repeat (first | (with_reducible first | exact HB.out | apply below_alloc | apply pw_below_drewN | apply below_drew1 | refine below_set ?_ GE266.out) | exact HB.out))) : w.heap.size ≤ gb269)); have n5_ := Aside0.mk ((by rw [hg]; exact (below_size (by repeat (first | (with_reducible first | exact HB.out | apply below_alloc | apply pw_below_drewN | apply below_drew1 | refine below_set ?_ GE266.out) | exact HB.out))) : w.heap.size ≤ gb269)); have n6_ := Aside0.mk ((by rw [hg]; exact Nat.ne_of_lt (blk_lt (g := gb266) (o := .cells #[.int .i64 t264, .int .i64 t265] 27 (0, 0)) (by (with_reducible repeat (first | refine blk_drewN ?_ _ | refine blk_drew ?_ | refine blk_alloc ?_ _)); exact BK266.out)) : gb266 ≠ gb269)); have n7_ := Aside0.mk ((by rw [hg]; exact Nat.ne_of_gt (blk_lt (g := gb266) (o := .cells #[.int .i64 t264, .int .i64 t265] 27 (0, 0)) (by (with_reducible repeat (first | refine blk_drewN ?_ _ | refine blk_drew ?_ | refine blk_alloc ?_ _)); exact BK266.out)) : gb269 ≠ gb266)); clear HO263; clear BK266; clear HB; have HO263 := n0_; have BK266 := n1_; have HB := n2_; have BK269 := n3_; have GW269 := n4_; have GE269 := n5_; have NB266_269 := n6_; have NB269_266 := n7_; clear n0_ n1_ n2_ n3_ n4_ n5_ n6_ n7_; clear hb hbox hg; have hnb16 := NB269_266.out; have hnc16 := NB266_269.out; have hcz17_0 : w15.cell? ⟨gb269, 0, none⟩ = some (.int .i64 0) := (blk_cell BK269.out 0).trans rfl; have hcz17_1 : w15.cell? ⟨gb269, 1, none⟩ = some (.int .i64 0) := (blk_cell BK269.out 1).trans rfl; have hfz17_0 := blk_frozen BK269.out 0; have hfz17_1 := blk_frozen BK269.out 1))
  (try simp only [Act.put, qa_, qz_, qs_])
  go_cut [11] (fun v11 wc => ∃ (kq : Nat) (x11_7 : Int), v11 = .int .i64 x11_7 ∧ Aside0 (partitalaw11_TempoSplit.j1 kq t260 t261 x11_7 t264 t265 t267 t268 = some r) ∧ Aside0 (kq ≤ k) ∧ Aside0 (Kd.R k36 36 wc w.heap.size (fun _ => True) v262 t261) ∧ Aside0 (wc.heap[gb266]? = some (.cells #[.int .i64 t264, .int .i64 t265] 27 (0, 0))) ∧ Aside0 (wc.heap[gb269]? = some (.cells #[.int .i64 t267, .int .i64 t268] 27 (0, 0))) ∧ Aside0 (Below w.heap.size w wc))
  case first =>
    have H := HC8.out
    clear HC8
    have H' := Aside0.mk H
    clear H
    go_wp2
    go_loopg [11] k (fun kq v11 w' => ∃ (x11_1 : Int), v11 = .int .i64 x11_1 ∧ Aside0 (partitalaw11_TempoSplit.l0 kq t260 t261 x11_1 t264 t265 t267 t268 = some r) ∧ Aside0 (kq ≤ k) ∧ Aside0 (Kd.R k36 36 w' w.heap.size (fun _ => True) v262 t261) ∧ Aside0 (w'.heap[gb266]? = some (.cells #[.int .i64 t264, .int .i64 t265] 27 (0, 0))) ∧ Aside0 (w'.heap[gb269]? = some (.cells #[.int .i64 t267, .int .i64 t268] 27 (0, 0))) ∧ Aside0 (Below w.heap.size w w'))
    case atStart => exact ⟨(0), (by first | rfl | (simp; done) | (simp [*]; done)), H', ⟨Nat.le_refl _⟩, ⟨by (with_reducible repeat (first | apply Kd.R_alloc | apply Kd.R_drewN | apply Kd.R_drew)); exact Kd.R_mono (Kd.R_far (p := ⟨gb269, 1, none⟩) (Kd.R_far (p := ⟨gb269, 0, none⟩) (Kd.R_types HO263.out BK269.out (by decide)) (fun _ hk => hk.2) (.int .i64 t267)) (fun _ hk => hk.2) (.int .i64 t268)) (fun _ hk => trivial)⟩, ⟨by (with_reducible repeat (first | refine blk_drewN ?_ _ | refine blk_drew ?_ | refine blk_alloc ?_ _)); refine blk_far ?_ NB266_269.out _; (with_reducible repeat (first | refine blk_drewN ?_ _ | refine blk_drew ?_ | refine blk_alloc ?_ _)); refine blk_far ?_ NB266_269.out _; (with_reducible repeat (first | refine blk_drewN ?_ _ | refine blk_drew ?_ | refine blk_alloc ?_ _)); exact BK266.out⟩, ⟨by (with_reducible repeat (first | refine blk_drewN ?_ _ | refine blk_drew ?_ | refine blk_alloc ?_ _)); refine blk_put (cs := #[.int .i64 t267, .int .i64 0]) ?_ 1 _ rfl; (with_reducible repeat (first | refine blk_drewN ?_ _ | refine blk_drew ?_ | refine blk_alloc ?_ _)); refine blk_put (cs := #[.int .i64 0, .int .i64 0]) ?_ 0 _ rfl; (with_reducible repeat (first | refine blk_drewN ?_ _ | refine blk_drew ?_ | refine blk_alloc ?_ _)); exact BK269.out⟩, ⟨by repeat (first | (with_reducible first | exact HB.out | apply below_alloc | apply pw_below_drewN | apply below_drew1 | refine below_set ?_ GE266.out | refine below_set ?_ GE269.out) | exact HB.out)⟩⟩
    case round =>
      clear H'
      try clear c1
      try clear p2
      try clear c8
      try clear c11
      try clear c12
      try clear c16
      try clear hcz13_0
      try clear hcz13_1
      try clear hcz17_0
      try clear hcz17_1
      try clear hfz13_0
      try clear hfz13_1
      try clear hfz17_0
      try clear hfz17_1
      obtain ⟨x11_1, rfl, HA, HK1, HO_8, BK266, BK269, HB⟩ := hrel
      cases gk with
      | zero => exact absurd HA.out (by simp [partitalaw11_TempoSplit.l0])
      | succ k1 =>
        have H := HA.out
        clear HA
        simp only [partitalaw11_TempoSplit.l0] at H
        by_cases c18 : x11_1 < (t261.length : Int)
        · rw [if_pos c18] at H
          have c18b0 : decide (x11_1 < (t261.length : Int)) = true := decide_eq_true c18
          clear c18
          (first | rw [c18b0] | (simp only [i64_w, i32_w]; rw [c18b0]) | skip)
          by_cases c19 : 0 ≤ x11_1
          · rw [if_pos c19] at H
            have c19b0 : decide (0 ≤ x11_1) = true := decide_eq_true c19
            clear c19
            replace H := Option.bind_eq_some_iff.mp H
            obtain ⟨t271, A200, H⟩ := H
            replace H : (if t271 ≤ 0 then (partitalaw11_TempoSplit.l0 k1 t260 t261 (wrap64 (x11_1 + 1)) t264 t265 t267 t268) else (partitalaw11_TempoSplit.j1 k1 t260 t261 x11_1 t264 t265 t267 t268)) = some r := H
            have A20 := Aside0.mk A200
            clear A200
            by_cases c21 : t271 ≤ 0
            · rw [if_pos c21] at H
              have c21b0 : decide (t271 ≤ 0) = true := decide_eq_true c21
              clear c21
              have H' := Aside0.mk H
              clear H
              try go_wp2
              have n0_ := Aside0.mk (Kd.R_drew HO_8.out)
              have n1_ := Aside0.mk (blk_drew BK266.out)
              have n2_ := Aside0.mk (blk_drew BK269.out)
              have n3_ := Aside0.mk (below_drew1 HB.out)
              clear HO_8
              clear BK266
              clear BK269
              clear HB
              have HO_8 := n0_
              have BK266 := n1_
              have BK269 := n2_
              have HB := n3_
              clear n0_ n1_ n2_ n3_
              obtain ⟨Ao23, co23, eo23⟩ := Kd.R_slice HO_8.out
              (first | subst eo23 | (injection eo23 with f1_ f2_ f3_; have f4_ := f1_.symm; have f5_ := f3_.symm; clear f1_ f2_ f3_; subst f4_; subst f5_))
              have p270 : 0 ≤ (x11_1 : Int) := of_decide_eq_true (by first | (with_reducible assumption) | assumption)
              have q270 : x11_1 < (t261.length : Int) := of_decide_eq_true (by first | (with_reducible assumption) | assumption)
              obtain ⟨ad270, e270, hx270_0, hx270_1, hx270_2, hx270_3⟩ := at_T36 (Kd.R_reads' HO_8.out).2.2 x11_1 p270 q270
              cases e270
              replace p270 := eq_true p270
              replace q270 := eq_true q270
              refine start_ (n := 14) (S := fun w' => w'.cell? ⟨gb266, 0, none⟩ = some (.int .i64 t264) ∧ w'.cell? ⟨gb266, 1, none⟩ = some (.int .i64 t265) ∧ w'.cell? (ad270.add ((x11_1).toNat * 4)) = some (.int .i64 ((rd_T36 t261 x11_1).f0.f0)) ∧ w'.cell? ⟨(ad270.add ((x11_1).toNat * 4)).block, (ad270.add ((x11_1).toNat * 4)).off + 1, none⟩ = some (.int .i64 ((rd_T36 t261 x11_1).f0.f1)) ∧ w'.cell? ⟨(ad270.add ((x11_1).toNat * 4)).block, (ad270.add ((x11_1).toNat * 4)).off + 2, none⟩ = some (.int .i64 ((rd_T36 t261 x11_1).f1)) ∧ w'.cell? ⟨(ad270.add ((x11_1).toNat * 4)).block, (ad270.add ((x11_1).toNat * 4)).off + 3, none⟩ = some (.bool ((rd_T36 t261 x11_1).f2))) (ds := []) #[false, false, false, false, false, false, false, false, false, false, false, false, false, false] (by kernel_rfl) rfl rfl ⟨(blk_cell BK266.out 0).trans rfl, (blk_cell BK266.out 1).trans rfl, hx270_0, hx270_1, hx270_2, hx270_3⟩ (fun hHeld => ?_); refine with_tabW partitalaw11_TempoSplit.tab6 partitalaw11_TempoSplit.bits6 (fun HT_ HW_ => ?_)
              generalize wr.drew = w22 at HO_8 BK266 BK269 HB hx270_0 hx270_1 hx270_2 hx270_3 hHeld ⊢
              refine pure_ (i := 0) (N := some 31) (v := ?_) (a' := ?_) #[true, false, false, false, false, false, false, false, false, false, false, false, false, false] rfl rfl (any_of HT_.out (by kernel_rfl)) (fun _ _ _ h => h) (Or.inl ⟨by rfl, ?_⟩) ?_ ?_
              rotate_left
              · intro w'
                go_simp
                with_reducible rfl
              rotate_left
              · simp only [Act.put, List.setIfInBounds_toArray, List.set_cons_zero, List.set_cons_succ, i64_w, i32_w]
                rfl
              refine pure_ (i := 1) (N := some 32) (v := ?_) (a' := ?_) #[true, true, false, false, false, false, false, false, false, false, false, false, false, false] rfl rfl (any_of HT_.out (by kernel_rfl)) (fun _ _ _ h => h) (Or.inl ⟨by rfl, ?_⟩) ?_ ?_
              rotate_left
              · intro w'
                go_simp
                with_reducible rfl
              rotate_left
              · simp only [Act.put, List.setIfInBounds_toArray, List.set_cons_zero, List.set_cons_succ, i64_w, i32_w]
                rfl
              refine pure_ (i := 2) (N := some 33) (v := ?_) (a' := ?_) #[true, true, true, false, false, false, false, false, false, false, false, false, false, false] rfl rfl (any_of HT_.out (by kernel_rfl)) (fun _ _ _ h => h) (Or.inl ⟨by rfl, ?_⟩) ?_ ?_
              rotate_left
              · intro w'
                go_simp
                with_reducible rfl
              rotate_left
              · simp only [Act.put, List.setIfInBounds_toArray, List.set_cons_zero, List.set_cons_succ, i64_w, i32_w]
                rfl
              refine pure_ (i := 3) (N := some 34) (v := ?_) (a' := ?_) #[true, true, true, true, false, false, false, false, false, false, false, false, false, false] rfl rfl (any_of HT_.out (by kernel_rfl)) (fun _ _ _ h => h) (Or.inl ⟨by rfl, ?_⟩) ?_ ?_
              rotate_left
              · intro w'
                go_simp
                with_reducible rfl
              rotate_left
              · simp only [Act.put, List.setIfInBounds_toArray, List.set_cons_zero, List.set_cons_succ, i64_w, i32_w]
                rfl
              refine pure_ (i := 4) (N := some 35) (v := ?_) (a' := ?_) #[true, true, true, true, true, false, false, false, false, false, false, false, false, false] rfl rfl (any_of HT_.out (by kernel_rfl)) (fun _ _ _ h => h) (Or.inl ⟨by rfl, ?_⟩) ?_ ?_
              rotate_left
              · intro w'
                go_simp
                with_reducible rfl
              rotate_left
              · simp only [Act.put, List.setIfInBounds_toArray, List.set_cons_zero, List.set_cons_succ, i64_w, i32_w]
                rfl
              refine pure_ (i := 5) (N := some 36) (v := ?_) (a' := ?_) #[true, true, true, true, true, true, false, false, false, false, false, false, false, false] rfl rfl (any_of HT_.out (by kernel_rfl)) (fun _ _ _ h => h) (Or.inl ⟨by rfl, ?_⟩) ?_ ?_
              rotate_left
              · intro w'
                go_simp
                with_reducible rfl
              rotate_left
              · simp only [Act.put, List.setIfInBounds_toArray, List.set_cons_zero, List.set_cons_succ, i64_w, i32_w]
                rfl
              refine pure_ (i := 6) (N := some 37) (v := ?_) (a' := ?_) #[true, true, true, true, true, true, true, false, false, false, false, false, false, false] rfl rfl (any_of HT_.out (by kernel_rfl)) (fun _ _ _ h => h) (Or.inl ⟨by rfl, ?_⟩) ?_ ?_
              rotate_left
              · intro w'
                go_simp
                with_reducible rfl
              rotate_left
              · simp only [Act.put, List.setIfInBounds_toArray, List.set_cons_zero, List.set_cons_succ, i64_w, i32_w]
                rfl
              refine pure_ (i := 7) (N := some 38) (v := ?_) (a' := ?_) #[true, true, true, true, true, true, true, true, false, false, false, false, false, false] rfl rfl (any_of HT_.out (by kernel_rfl)) (fun _ _ _ h => h) (Or.inl ⟨by rfl, ?_⟩) ?_ ?_
              rotate_left
              · intro w'
                go_simp
                with_reducible rfl
              rotate_left
              · simp only [Act.put, List.setIfInBounds_toArray, List.set_cons_zero, List.set_cons_succ, i64_w, i32_w]
                rfl
              refine pure_ (i := 8) (N := some 39) (v := ?_) (a' := ?_) #[true, true, true, true, true, true, true, true, true, false, false, false, false, false] rfl rfl (any_of HT_.out (by kernel_rfl)) (fun _ _ _ h => h) (Or.inl ⟨by rfl, ?_⟩) ?_ ?_
              rotate_left
              · intro w'
                go_simp
                with_reducible rfl
              rotate_left
              · simp only [Act.put, List.setIfInBounds_toArray, List.set_cons_zero, List.set_cons_succ, i64_w, i32_w]
                rfl
              refine take_ (i := 9) (N := some 40) (v := ?_) (a' := ?_) #[true, true, true, true, true, true, true, true, true, true, false, false, false, false] rfl rfl (take_ofW HT_.out HW_.out (by kernel_rfl)) (fun _ _ _ h => h) (Or.inl ⟨by rfl, ?_⟩) hHeld ?_ ?_
              rotate_left
              · rintro w' ⟨s0, s1, s2, s3, s4, s5⟩
                go_simp
                with_reducible rfl
              rotate_left
              · simp only [Act.put, List.setIfInBounds_toArray, List.set_cons_zero, List.set_cons_succ, i64_w, i32_w]
                rfl
              refine take_ (i := 10) (N := some 41) (v := ?_) (a' := ?_) #[true, true, true, true, true, true, true, true, true, true, true, false, false, false] rfl rfl (take_ofW HT_.out HW_.out (by kernel_rfl)) (fun _ _ _ h => h) (Or.inl ⟨by rfl, ?_⟩) hHeld ?_ ?_
              rotate_left
              · rintro w' ⟨s0, s1, s2, s3, s4, s5⟩
                go_simp
                with_reducible rfl
              rotate_left
              · simp only [Act.put, List.setIfInBounds_toArray, List.set_cons_zero, List.set_cons_succ, i64_w, i32_w]
                rfl
              refine one_ (i := 11) (N := some 42) #[true, true, true, true, true, true, true, true, true, true, true, true, false, false] rfl rfl (one_of HT_.out (by kernel_rfl)) (by decide) (fun K hK => ?_)
              refine goes_ Try.func19 (by kernel_rfl) rfl #[.agg #[.int .i64 ((rd_T36 t261 x11_1).f0.f0), .int .i64 ((rd_T36 t261 x11_1).f0.f1)], .agg #[.int .i64 t264, .int .i64 t265]] (by rfl) rfl rfl (by (try simp only [List.map_toArray, List.map_cons, List.map_nil]); first | done | rfl | (simp only [List.length_drop, List.length_take]; rfl)) ?_
              with_reducible refine (ratio_Compare.calls ((rd_T36 t261 x11_1).f0.f0) ((rd_T36 t261 x11_1).f0.f1) t264 t265 t271 _ A20.out).mono ?_
              rintro e w24 ⟨rfl, hb⟩
              have HS2_ := (hb.cell (World.block_lt_of_cell? _ _ (hHeld.2.2.1))).trans (hHeld.2.2.1)
              have HS3_ := (hb.cell (World.block_lt_of_cell? _ _ (hHeld.2.2.2.1))).trans (hHeld.2.2.2.1)
              have HS4_ := (hb.cell (World.block_lt_of_cell? _ _ (hHeld.2.2.2.2.1))).trans (hHeld.2.2.2.2.1)
              have HS5_ := (hb.cell (World.block_lt_of_cell? _ _ (hHeld.2.2.2.2.2))).trans (hHeld.2.2.2.2.2)
              refine ⟨_, rfl, ?_⟩
              have n0_ := Aside0.mk (Kd.R_below (by (with_reducible repeat (first | apply Kd.R_alloc | apply Kd.R_drewN | apply Kd.R_drew)); exact HO_8.out) hb)
              have n1_ := Aside0.mk (blk_below (g := gb266) (o := .cells #[.int .i64 t264, .int .i64 t265] 27 (0, 0)) (by (with_reducible repeat (first | refine blk_drewN ?_ _ | refine blk_drew ?_ | refine blk_alloc ?_ _)); exact BK266.out) hb)
              have n2_ := Aside0.mk (blk_below (g := gb269) (o := .cells #[.int .i64 t267, .int .i64 t268] 27 (0, 0)) (by (with_reducible repeat (first | refine blk_drewN ?_ _ | refine blk_drew ?_ | refine blk_alloc ?_ _)); exact BK269.out) hb)
              have n3_ := Aside0.mk (below_step (by repeat (first | (with_reducible first | exact HB.out | apply below_alloc | apply pw_below_drewN | apply below_drew1 | refine below_set ?_ GE266.out | refine below_set ?_ GE269.out) | exact HB.out)) hb)
              clear HO_8
              clear BK266
              clear BK269
              clear HB
              have HO_8 := n0_
              have BK266 := n1_
              have BK269 := n2_
              have HB := n3_
              clear n0_ n1_ n2_ n3_
              (try clear hb)
              (try clear hb2)
              (try clear hk)
              (try clear hi)
              refine hK.out _ _ ⟨(blk_cell BK266.out 0).trans rfl, (blk_cell BK266.out 1).trans rfl, HS2_, HS3_, HS4_, HS5_⟩ (fun hHeld => ?_)
              clear hK K
              refine norm_ (a' := ?_) ?_ ?_
              rotate_left
              · show Act.put _ (some 42) _ = _
                simp only [Act.put, List.setIfInBounds_toArray, List.set_cons_zero, List.set_cons_succ, i64_w, i32_w]
                rfl
              refine pure_ (i := 12) (N := some 43) (v := ?_) (a' := ?_) #[true, true, true, true, true, true, true, true, true, true, true, true, true, false] rfl rfl (any_of HT_.out (by kernel_rfl)) (fun _ _ _ h => h) (Or.inl ⟨by rfl, ?_⟩) ?_ ?_
              rotate_left
              · intro w'
                go_simp
                with_reducible rfl
              rotate_left
              · simp only [Act.put, List.setIfInBounds_toArray, List.set_cons_zero, List.set_cons_succ, i64_w, i32_w]
                rfl
              refine pure_ (i := 13) (N := some 44) (v := ?_) (a' := ?_) #[true, true, true, true, true, true, true, true, true, true, true, true, true, true] rfl rfl (any_of HT_.out (by kernel_rfl)) (fun _ _ _ h => h) (Or.inl ⟨by rfl, ?_⟩) ?_ ?_
              rotate_left
              · intro w'
                go_simp
                with_reducible rfl
              rotate_left
              · simp only [Act.put, List.setIfInBounds_toArray, List.set_cons_zero, List.set_cons_succ, i64_w, i32_w]
                rfl
              refine done_ (done_of HT_.out (by kernel_rfl)) ?_
              try go_wp2
              go_roundg k1
              case measure => have := HK1.out; omega
              case rel => exact ⟨(wrap64 (x11_1 + 1)), (by first | rfl | (simp; done) | (simp [*]; done)), H', ⟨by have := HK1.out; omega⟩, ⟨by (with_reducible repeat (first | apply Kd.R_alloc | apply Kd.R_drewN | apply Kd.R_drew)); exact HO_8.out⟩, ⟨by (with_reducible repeat (first | refine blk_drewN ?_ _ | refine blk_drew ?_ | refine blk_alloc ?_ _)); exact BK266.out⟩, ⟨by (with_reducible repeat (first | refine blk_drewN ?_ _ | refine blk_drew ?_ | refine blk_alloc ?_ _)); exact BK269.out⟩, ⟨by repeat (first | (with_reducible first | exact HB.out | apply below_alloc | apply pw_below_drewN | apply below_drew1 | refine below_set ?_ GE266.out | refine below_set ?_ GE269.out) | exact HB.out)⟩⟩
            · rw [if_neg c21] at H
              have c21b0 : decide (t271 ≤ 0) = false := decide_eq_false c21
              clear c21
              have H' := Aside0.mk H
              clear H
              try go_wp2
              have n0_ := Aside0.mk (Kd.R_drew HO_8.out)
              have n1_ := Aside0.mk (blk_drew BK266.out)
              have n2_ := Aside0.mk (blk_drew BK269.out)
              have n3_ := Aside0.mk (below_drew1 HB.out)
              clear HO_8
              clear BK266
              clear BK269
              clear HB
              have HO_8 := n0_
              have BK266 := n1_
              have BK269 := n2_
              have HB := n3_
              clear n0_ n1_ n2_ n3_
              obtain ⟨Ao26, co26, eo26⟩ := Kd.R_slice HO_8.out
              (first | subst eo26 | (injection eo26 with f1_ f2_ f3_; have f4_ := f1_.symm; have f5_ := f3_.symm; clear f1_ f2_ f3_; subst f4_; subst f5_))
              have p270 : 0 ≤ (x11_1 : Int) := of_decide_eq_true (by first | (with_reducible assumption) | assumption)
              have q270 : x11_1 < (t261.length : Int) := of_decide_eq_true (by first | (with_reducible assumption) | assumption)
              obtain ⟨ad270, e270, hx270_0, hx270_1, hx270_2, hx270_3⟩ := at_T36 (Kd.R_reads' HO_8.out).2.2 x11_1 p270 q270
              cases e270
              replace p270 := eq_true p270
              replace q270 := eq_true q270
              refine start_ (n := 14) (S := fun w' => w'.cell? ⟨gb266, 0, none⟩ = some (.int .i64 t264) ∧ w'.cell? ⟨gb266, 1, none⟩ = some (.int .i64 t265) ∧ w'.cell? (ad270.add ((x11_1).toNat * 4)) = some (.int .i64 ((rd_T36 t261 x11_1).f0.f0)) ∧ w'.cell? ⟨(ad270.add ((x11_1).toNat * 4)).block, (ad270.add ((x11_1).toNat * 4)).off + 1, none⟩ = some (.int .i64 ((rd_T36 t261 x11_1).f0.f1)) ∧ w'.cell? ⟨(ad270.add ((x11_1).toNat * 4)).block, (ad270.add ((x11_1).toNat * 4)).off + 2, none⟩ = some (.int .i64 ((rd_T36 t261 x11_1).f1)) ∧ w'.cell? ⟨(ad270.add ((x11_1).toNat * 4)).block, (ad270.add ((x11_1).toNat * 4)).off + 3, none⟩ = some (.bool ((rd_T36 t261 x11_1).f2))) (ds := []) #[false, false, false, false, false, false, false, false, false, false, false, false, false, false] (by kernel_rfl) rfl rfl ⟨(blk_cell BK266.out 0).trans rfl, (blk_cell BK266.out 1).trans rfl, hx270_0, hx270_1, hx270_2, hx270_3⟩ (fun hHeld => ?_); refine with_tabW partitalaw11_TempoSplit.tab6 partitalaw11_TempoSplit.bits6 (fun HT_ HW_ => ?_)
              generalize wr.drew = w25 at HO_8 BK266 BK269 HB hx270_0 hx270_1 hx270_2 hx270_3 hHeld ⊢
              refine pure_ (i := 0) (N := some 31) (v := ?_) (a' := ?_) #[true, false, false, false, false, false, false, false, false, false, false, false, false, false] rfl rfl (any_of HT_.out (by kernel_rfl)) (fun _ _ _ h => h) (Or.inl ⟨by rfl, ?_⟩) ?_ ?_
              rotate_left
              · intro w'
                go_simp
                with_reducible rfl
              rotate_left
              · simp only [Act.put, List.setIfInBounds_toArray, List.set_cons_zero, List.set_cons_succ, i64_w, i32_w]
                rfl
              refine pure_ (i := 1) (N := some 32) (v := ?_) (a' := ?_) #[true, true, false, false, false, false, false, false, false, false, false, false, false, false] rfl rfl (any_of HT_.out (by kernel_rfl)) (fun _ _ _ h => h) (Or.inl ⟨by rfl, ?_⟩) ?_ ?_
              rotate_left
              · intro w'
                go_simp
                with_reducible rfl
              rotate_left
              · simp only [Act.put, List.setIfInBounds_toArray, List.set_cons_zero, List.set_cons_succ, i64_w, i32_w]
                rfl
              refine pure_ (i := 2) (N := some 33) (v := ?_) (a' := ?_) #[true, true, true, false, false, false, false, false, false, false, false, false, false, false] rfl rfl (any_of HT_.out (by kernel_rfl)) (fun _ _ _ h => h) (Or.inl ⟨by rfl, ?_⟩) ?_ ?_
              rotate_left
              · intro w'
                go_simp
                with_reducible rfl
              rotate_left
              · simp only [Act.put, List.setIfInBounds_toArray, List.set_cons_zero, List.set_cons_succ, i64_w, i32_w]
                rfl
              refine pure_ (i := 3) (N := some 34) (v := ?_) (a' := ?_) #[true, true, true, true, false, false, false, false, false, false, false, false, false, false] rfl rfl (any_of HT_.out (by kernel_rfl)) (fun _ _ _ h => h) (Or.inl ⟨by rfl, ?_⟩) ?_ ?_
              rotate_left
              · intro w'
                go_simp
                with_reducible rfl
              rotate_left
              · simp only [Act.put, List.setIfInBounds_toArray, List.set_cons_zero, List.set_cons_succ, i64_w, i32_w]
                rfl
              refine pure_ (i := 4) (N := some 35) (v := ?_) (a' := ?_) #[true, true, true, true, true, false, false, false, false, false, false, false, false, false] rfl rfl (any_of HT_.out (by kernel_rfl)) (fun _ _ _ h => h) (Or.inl ⟨by rfl, ?_⟩) ?_ ?_
              rotate_left
              · intro w'
                go_simp
                with_reducible rfl
              rotate_left
              · simp only [Act.put, List.setIfInBounds_toArray, List.set_cons_zero, List.set_cons_succ, i64_w, i32_w]
                rfl
              refine pure_ (i := 5) (N := some 36) (v := ?_) (a' := ?_) #[true, true, true, true, true, true, false, false, false, false, false, false, false, false] rfl rfl (any_of HT_.out (by kernel_rfl)) (fun _ _ _ h => h) (Or.inl ⟨by rfl, ?_⟩) ?_ ?_
              rotate_left
              · intro w'
                go_simp
                with_reducible rfl
              rotate_left
              · simp only [Act.put, List.setIfInBounds_toArray, List.set_cons_zero, List.set_cons_succ, i64_w, i32_w]
                rfl
              refine pure_ (i := 6) (N := some 37) (v := ?_) (a' := ?_) #[true, true, true, true, true, true, true, false, false, false, false, false, false, false] rfl rfl (any_of HT_.out (by kernel_rfl)) (fun _ _ _ h => h) (Or.inl ⟨by rfl, ?_⟩) ?_ ?_
              rotate_left
              · intro w'
                go_simp
                with_reducible rfl
              rotate_left
              · simp only [Act.put, List.setIfInBounds_toArray, List.set_cons_zero, List.set_cons_succ, i64_w, i32_w]
                rfl
              refine pure_ (i := 7) (N := some 38) (v := ?_) (a' := ?_) #[true, true, true, true, true, true, true, true, false, false, false, false, false, false] rfl rfl (any_of HT_.out (by kernel_rfl)) (fun _ _ _ h => h) (Or.inl ⟨by rfl, ?_⟩) ?_ ?_
              rotate_left
              · intro w'
                go_simp
                with_reducible rfl
              rotate_left
              · simp only [Act.put, List.setIfInBounds_toArray, List.set_cons_zero, List.set_cons_succ, i64_w, i32_w]
                rfl
              refine pure_ (i := 8) (N := some 39) (v := ?_) (a' := ?_) #[true, true, true, true, true, true, true, true, true, false, false, false, false, false] rfl rfl (any_of HT_.out (by kernel_rfl)) (fun _ _ _ h => h) (Or.inl ⟨by rfl, ?_⟩) ?_ ?_
              rotate_left
              · intro w'
                go_simp
                with_reducible rfl
              rotate_left
              · simp only [Act.put, List.setIfInBounds_toArray, List.set_cons_zero, List.set_cons_succ, i64_w, i32_w]
                rfl
              refine take_ (i := 9) (N := some 40) (v := ?_) (a' := ?_) #[true, true, true, true, true, true, true, true, true, true, false, false, false, false] rfl rfl (take_ofW HT_.out HW_.out (by kernel_rfl)) (fun _ _ _ h => h) (Or.inl ⟨by rfl, ?_⟩) hHeld ?_ ?_
              rotate_left
              · rintro w' ⟨s0, s1, s2, s3, s4, s5⟩
                go_simp
                with_reducible rfl
              rotate_left
              · simp only [Act.put, List.setIfInBounds_toArray, List.set_cons_zero, List.set_cons_succ, i64_w, i32_w]
                rfl
              refine take_ (i := 10) (N := some 41) (v := ?_) (a' := ?_) #[true, true, true, true, true, true, true, true, true, true, true, false, false, false] rfl rfl (take_ofW HT_.out HW_.out (by kernel_rfl)) (fun _ _ _ h => h) (Or.inl ⟨by rfl, ?_⟩) hHeld ?_ ?_
              rotate_left
              · rintro w' ⟨s0, s1, s2, s3, s4, s5⟩
                go_simp
                with_reducible rfl
              rotate_left
              · simp only [Act.put, List.setIfInBounds_toArray, List.set_cons_zero, List.set_cons_succ, i64_w, i32_w]
                rfl
              refine one_ (i := 11) (N := some 42) #[true, true, true, true, true, true, true, true, true, true, true, true, false, false] rfl rfl (one_of HT_.out (by kernel_rfl)) (by decide) (fun K hK => ?_)
              refine goes_ Try.func19 (by kernel_rfl) rfl #[.agg #[.int .i64 ((rd_T36 t261 x11_1).f0.f0), .int .i64 ((rd_T36 t261 x11_1).f0.f1)], .agg #[.int .i64 t264, .int .i64 t265]] (by rfl) rfl rfl (by (try simp only [List.map_toArray, List.map_cons, List.map_nil]); first | done | rfl | (simp only [List.length_drop, List.length_take]; rfl)) ?_
              with_reducible refine (ratio_Compare.calls ((rd_T36 t261 x11_1).f0.f0) ((rd_T36 t261 x11_1).f0.f1) t264 t265 t271 _ A20.out).mono ?_
              rintro e w27 ⟨rfl, hb⟩
              have HS2_ := (hb.cell (World.block_lt_of_cell? _ _ (hHeld.2.2.1))).trans (hHeld.2.2.1)
              have HS3_ := (hb.cell (World.block_lt_of_cell? _ _ (hHeld.2.2.2.1))).trans (hHeld.2.2.2.1)
              have HS4_ := (hb.cell (World.block_lt_of_cell? _ _ (hHeld.2.2.2.2.1))).trans (hHeld.2.2.2.2.1)
              have HS5_ := (hb.cell (World.block_lt_of_cell? _ _ (hHeld.2.2.2.2.2))).trans (hHeld.2.2.2.2.2)
              refine ⟨_, rfl, ?_⟩
              have n0_ := Aside0.mk (Kd.R_below (by (with_reducible repeat (first | apply Kd.R_alloc | apply Kd.R_drewN | apply Kd.R_drew)); exact HO_8.out) hb)
              have n1_ := Aside0.mk (blk_below (g := gb266) (o := .cells #[.int .i64 t264, .int .i64 t265] 27 (0, 0)) (by (with_reducible repeat (first | refine blk_drewN ?_ _ | refine blk_drew ?_ | refine blk_alloc ?_ _)); exact BK266.out) hb)
              have n2_ := Aside0.mk (blk_below (g := gb269) (o := .cells #[.int .i64 t267, .int .i64 t268] 27 (0, 0)) (by (with_reducible repeat (first | refine blk_drewN ?_ _ | refine blk_drew ?_ | refine blk_alloc ?_ _)); exact BK269.out) hb)
              have n3_ := Aside0.mk (below_step (by repeat (first | (with_reducible first | exact HB.out | apply below_alloc | apply pw_below_drewN | apply below_drew1 | refine below_set ?_ GE266.out | refine below_set ?_ GE269.out) | exact HB.out)) hb)
              clear HO_8
              clear BK266
              clear BK269
              clear HB
              have HO_8 := n0_
              have BK266 := n1_
              have BK269 := n2_
              have HB := n3_
              clear n0_ n1_ n2_ n3_
              (try clear hb)
              (try clear hb2)
              (try clear hk)
              (try clear hi)
              refine hK.out _ _ ⟨(blk_cell BK266.out 0).trans rfl, (blk_cell BK266.out 1).trans rfl, HS2_, HS3_, HS4_, HS5_⟩ (fun hHeld => ?_)
              clear hK K
              refine norm_ (a' := ?_) ?_ ?_
              rotate_left
              · show Act.put _ (some 42) _ = _
                simp only [Act.put, List.setIfInBounds_toArray, List.set_cons_zero, List.set_cons_succ, i64_w, i32_w]
                rfl
              refine pure_ (i := 12) (N := some 43) (v := ?_) (a' := ?_) #[true, true, true, true, true, true, true, true, true, true, true, true, true, false] rfl rfl (any_of HT_.out (by kernel_rfl)) (fun _ _ _ h => h) (Or.inl ⟨by rfl, ?_⟩) ?_ ?_
              rotate_left
              · intro w'
                go_simp
                with_reducible rfl
              rotate_left
              · simp only [Act.put, List.setIfInBounds_toArray, List.set_cons_zero, List.set_cons_succ, i64_w, i32_w]
                rfl
              refine pure_ (i := 13) (N := some 44) (v := ?_) (a' := ?_) #[true, true, true, true, true, true, true, true, true, true, true, true, true, true] rfl rfl (any_of HT_.out (by kernel_rfl)) (fun _ _ _ h => h) (Or.inl ⟨by rfl, ?_⟩) ?_ ?_
              rotate_left
              · intro w'
                go_simp
                with_reducible rfl
              rotate_left
              · simp only [Act.put, List.setIfInBounds_toArray, List.set_cons_zero, List.set_cons_succ, i64_w, i32_w]
                rfl
              refine done_ (done_of HT_.out (by kernel_rfl)) ?_
              try go_wp2
              go_meet
              case rel => exact ⟨_, (x11_1), (by first | rfl | (simp; done) | (simp [*]; done)), H', ⟨by have := HK1.out; first | omega | exact Nat.le_refl _⟩, ⟨by (with_reducible repeat (first | apply Kd.R_alloc | apply Kd.R_drewN | apply Kd.R_drew)); exact HO_8.out⟩, ⟨by (with_reducible repeat (first | refine blk_drewN ?_ _ | refine blk_drew ?_ | refine blk_alloc ?_ _)); exact BK266.out⟩, ⟨by (with_reducible repeat (first | refine blk_drewN ?_ _ | refine blk_drew ?_ | refine blk_alloc ?_ _)); exact BK269.out⟩, ⟨by repeat (first | (with_reducible first | exact HB.out | apply below_alloc | apply pw_below_drewN | apply below_drew1 | refine below_set ?_ GE266.out | refine below_set ?_ GE269.out) | exact HB.out)⟩⟩
          · rw [if_neg c19] at H
            exact absurd H (by simp)
        · rw [if_neg c18] at H
          have c18b0 : decide (x11_1 < (t261.length : Int)) = false := decide_eq_false c18
          clear c18
          (first | rw [c18b0] | (simp only [i64_w, i32_w]; rw [c18b0]) | skip)
          have H' := Aside0.mk H
          clear H
          try go_wp2
          have n0_ := Aside0.mk (Kd.R_drew HO_8.out)
          have n1_ := Aside0.mk (blk_drew BK266.out)
          have n2_ := Aside0.mk (blk_drew BK269.out)
          have n3_ := Aside0.mk (below_drew1 HB.out)
          clear HO_8
          clear BK266
          clear BK269
          clear HB
          have HO_8 := n0_
          have BK266 := n1_
          have BK269 := n2_
          have HB := n3_
          clear n0_ n1_ n2_ n3_
          obtain ⟨Ao29, co29, eo29⟩ := Kd.R_slice HO_8.out
          (first | subst eo29 | (injection eo29 with f1_ f2_ f3_; have f4_ := f1_.symm; have f5_ := f3_.symm; clear f1_ f2_ f3_; subst f4_; subst f5_))
          refine start_ (n := 14) (S := fun w' => True) (ds := []) #[false, false, false, false, false, false, false, false, false, false, false, false, false, false] (by kernel_rfl) rfl rfl trivial (fun hHeld => ?_); refine with_tabW partitalaw11_TempoSplit.tab6 partitalaw11_TempoSplit.bits6 (fun HT_ HW_ => ?_)
          generalize wr.drew = w28 at HO_8 BK266 BK269 HB hHeld ⊢
          refine pure_ (i := 0) (N := some 31) (v := ?_) (a' := ?_) #[true, false, false, false, false, false, false, false, false, false, false, false, false, false] rfl rfl (any_of HT_.out (by kernel_rfl)) (fun _ _ _ h => h) (Or.inl ⟨by rfl, ?_⟩) ?_ ?_
          rotate_left
          · intro w'
            go_simp
            with_reducible rfl
          rotate_left
          · simp only [Act.put, List.setIfInBounds_toArray, List.set_cons_zero, List.set_cons_succ, i64_w, i32_w]
            rfl
          refine pure_ (i := 1) (N := some 32) (v := ?_) (a' := ?_) #[true, true, false, false, false, false, false, false, false, false, false, false, false, false] rfl rfl (any_of HT_.out (by kernel_rfl)) (fun _ _ _ h => h) (Or.inl ⟨by rfl, ?_⟩) ?_ ?_
          rotate_left
          · intro w'
            go_simp
            with_reducible rfl
          rotate_left
          · simp only [Act.put, List.setIfInBounds_toArray, List.set_cons_zero, List.set_cons_succ, i64_w, i32_w]
            rfl
          refine pure_ (i := 2) (N := some 33) (v := ?_) (a' := ?_) #[true, true, true, false, false, false, false, false, false, false, false, false, false, false] rfl rfl (any_of HT_.out (by kernel_rfl)) (fun _ _ _ h => h) (Or.inl ⟨by rfl, ?_⟩) ?_ ?_
          rotate_left
          · intro w'
            go_simp
            with_reducible rfl
          rotate_left
          · simp only [Act.put, List.setIfInBounds_toArray, List.set_cons_zero, List.set_cons_succ, i64_w, i32_w]
            rfl
          refine pure_ (i := 3) (N := some 34) (v := ?_) (a' := ?_) #[true, true, true, true, false, false, false, false, false, false, false, false, false, false] rfl rfl (any_of HT_.out (by kernel_rfl)) (fun _ _ _ h => h) (Or.inl ⟨by rfl, ?_⟩) ?_ ?_
          rotate_left
          · intro w'
            go_simp
            with_reducible rfl
          rotate_left
          · simp only [Act.put, List.setIfInBounds_toArray, List.set_cons_zero, List.set_cons_succ, i64_w, i32_w]
            rfl
          refine pure_ (i := 4) (N := some 35) (v := ?_) (a' := ?_) #[true, true, true, true, true, false, false, false, false, false, false, false, false, false] rfl rfl (any_of HT_.out (by kernel_rfl)) (fun _ _ _ h => h) (Or.inl ⟨by rfl, ?_⟩) ?_ ?_
          rotate_left
          · intro w'
            go_simp
            with_reducible rfl
          rotate_left
          · simp only [Act.put, List.setIfInBounds_toArray, List.set_cons_zero, List.set_cons_succ, i64_w, i32_w]
            rfl
          refine pure_ (i := 5) (N := some 36) (v := undef) (a' := ?_) #[true, true, true, true, true, true, false, false, false, false, false, false, false, false] rfl rfl (any_of HT_.out (by kernel_rfl)) (fun _ _ _ h => h) (Or.inr ⟨by rfl, rfl⟩) ?_ ?_
          rotate_left
          · simp only [Act.put, List.setIfInBounds_toArray, List.set_cons_zero, List.set_cons_succ, i64_w, i32_w]
            rfl
          refine pure_ (i := 6) (N := some 37) (v := undef) (a' := ?_) #[true, true, true, true, true, true, true, false, false, false, false, false, false, false] rfl rfl (any_of HT_.out (by kernel_rfl)) (fun _ _ _ h => h) (Or.inr ⟨by rfl, rfl⟩) ?_ ?_
          rotate_left
          · simp only [Act.put, List.setIfInBounds_toArray, List.set_cons_zero, List.set_cons_succ, i64_w, i32_w]
            rfl
          refine pure_ (i := 7) (N := some 38) (v := undef) (a' := ?_) #[true, true, true, true, true, true, true, true, false, false, false, false, false, false] rfl rfl (any_of HT_.out (by kernel_rfl)) (fun _ _ _ h => h) (Or.inr ⟨by rfl, rfl⟩) ?_ ?_
          rotate_left
          · simp only [Act.put, List.setIfInBounds_toArray, List.set_cons_zero, List.set_cons_succ, i64_w, i32_w]
            rfl
          refine pure_ (i := 8) (N := some 39) (v := undef) (a' := ?_) #[true, true, true, true, true, true, true, true, true, false, false, false, false, false] rfl rfl (any_of HT_.out (by kernel_rfl)) (fun _ _ _ h => h) (Or.inr ⟨by rfl, rfl⟩) ?_ ?_
          rotate_left
          · simp only [Act.put, List.setIfInBounds_toArray, List.set_cons_zero, List.set_cons_succ, i64_w, i32_w]
            rfl
          refine pure_ (i := 9) (N := some 40) (v := undef) (a' := ?_) #[true, true, true, true, true, true, true, true, true, true, false, false, false, false] rfl rfl (any_of HT_.out (by kernel_rfl)) (fun _ _ _ h => h) (Or.inr ⟨by rfl, rfl⟩) ?_ ?_
          rotate_left
          · simp only [Act.put, List.setIfInBounds_toArray, List.set_cons_zero, List.set_cons_succ, i64_w, i32_w]
            rfl
          refine pure_ (i := 10) (N := some 41) (v := undef) (a' := ?_) #[true, true, true, true, true, true, true, true, true, true, true, false, false, false] rfl rfl (any_of HT_.out (by kernel_rfl)) (fun _ _ _ h => h) (Or.inr ⟨by rfl, rfl⟩) ?_ ?_
          rotate_left
          · simp only [Act.put, List.setIfInBounds_toArray, List.set_cons_zero, List.set_cons_succ, i64_w, i32_w]
            rfl
          refine pure_ (i := 11) (N := some 42) (v := undef) (a' := ?_) #[true, true, true, true, true, true, true, true, true, true, true, true, false, false] rfl rfl (any_of HT_.out (by kernel_rfl)) (fun _ _ _ h => h) (Or.inr ⟨by rfl, rfl⟩) ?_ ?_
          rotate_left
          · simp only [Act.put, List.setIfInBounds_toArray, List.set_cons_zero, List.set_cons_succ, i64_w, i32_w]
            rfl
          refine pure_ (i := 12) (N := some 43) (v := undef) (a' := ?_) #[true, true, true, true, true, true, true, true, true, true, true, true, true, false] rfl rfl (any_of HT_.out (by kernel_rfl)) (fun _ _ _ h => h) (Or.inr ⟨by rfl, rfl⟩) ?_ ?_
          rotate_left
          · simp only [Act.put, List.setIfInBounds_toArray, List.set_cons_zero, List.set_cons_succ, i64_w, i32_w]
            rfl
          refine pure_ (i := 13) (N := some 44) (v := ?_) (a' := ?_) #[true, true, true, true, true, true, true, true, true, true, true, true, true, true] rfl rfl (any_of HT_.out (by kernel_rfl)) (fun _ _ _ h => h) (Or.inl ⟨by rfl, ?_⟩) ?_ ?_
          rotate_left
          · intro w'
            go_simp
            with_reducible rfl
          rotate_left
          · simp only [Act.put, List.setIfInBounds_toArray, List.set_cons_zero, List.set_cons_succ, i64_w, i32_w]
            rfl
          refine done_ (done_of HT_.out (by kernel_rfl)) ?_
          try go_wp2
          go_meet
          case rel => exact ⟨_, (x11_1), (by first | rfl | (simp; done) | (simp [*]; done)), H', ⟨by have := HK1.out; first | omega | exact Nat.le_refl _⟩, ⟨by (with_reducible repeat (first | apply Kd.R_alloc | apply Kd.R_drewN | apply Kd.R_drew)); exact HO_8.out⟩, ⟨by (with_reducible repeat (first | refine blk_drewN ?_ _ | refine blk_drew ?_ | refine blk_alloc ?_ _)); exact BK266.out⟩, ⟨by (with_reducible repeat (first | refine blk_drewN ?_ _ | refine blk_drew ?_ | refine blk_alloc ?_ _)); exact BK269.out⟩, ⟨by repeat (first | (with_reducible first | exact HB.out | apply below_alloc | apply pw_below_drewN | apply below_drew1 | refine below_set ?_ GE266.out | refine below_set ?_ GE269.out) | exact HB.out)⟩⟩
  case rest =>
    clear HC8
    try clear c1
    try clear c2
    try clear p2
    try clear q2
    try clear hx2
    try clear p6
    try clear c8
    try clear c11
    try clear c12
    try clear c16
    try clear c18
    try clear c18b0
    try clear c19
    try clear c19b0
    try clear c21
    try clear c21b0
    try clear p27
    try clear q27
    try clear hx27
    try clear hcz13_0
    try clear hcz13_1
    try clear hcz17_0
    try clear hcz17_1
    try clear hfz13_0
    try clear hfz13_1
    try clear hfz17_0
    try clear hfz17_1
    try clear hx270_0
    try clear hx270_1
    try clear hx270_2
    try clear hx270_3
    try clear p2
    try clear p270
    try clear q270
    obtain ⟨kq, x11_7, rfl, HA, HJ7, HO_8, BK266, BK269, HB⟩ := hcut
    cases kq with
    | zero => exact absurd HA.out (by simp [partitalaw11_TempoSplit.j1])
    | succ kj7 =>
      have H := HA.out
      clear HA
      simp only [partitalaw11_TempoSplit.j1] at H
      have HC30 := Aside0.mk H
      clear H
      have hnb31 := NB266_269.out
      have hnc31 := NB269_266.out
      have hcz32_0 : wc.cell? ⟨gb266, 0, none⟩ = some (.int .i64 t264) := (blk_cell BK266.out 0).trans rfl
      have hcz32_1 : wc.cell? ⟨gb266, 1, none⟩ = some (.int .i64 t265) := (blk_cell BK266.out 1).trans rfl
      have hfz32_0 := blk_frozen BK266.out 0
      have hfz32_1 := blk_frozen BK266.out 1
      go_upto_if 50 with (first | ((with_reducible refine gate_dst (N := 12) rfl ?_); refine box_event ?hg (N := 12) ?hd (cs := #[.int .i64 0, .int .i64 0, .int .i64 0, .bool false]) (t := 36) ?hr ?_; (case hd => rfl); (case hg => rfl); (case hr => first | (go_simp; done) | (go_simp; rfl)); intro gb272 hg w33 hbox hb; have n0_ := Aside0.mk (Kd.R_below (Kd.R_elderB (by (with_reducible repeat (first | apply Kd.R_alloc | apply Kd.R_drewN | apply Kd.R_drew)); exact HO_8.out) gb272 (Nat.le_of_eq hg.symm)) hb); have n1_ := Aside0.mk (blk_below (g := gb266) (o := .cells #[.int .i64 t264, .int .i64 t265] 27 (0, 0)) (by (with_reducible repeat (first | refine blk_drewN ?_ _ | refine blk_drew ?_ | refine blk_alloc ?_ _)); exact BK266.out) hb); have n2_ := Aside0.mk (blk_below (g := gb269) (o := .cells #[.int .i64 t267, .int .i64 t268] 27 (0, 0)) (by (with_reducible repeat (first | refine blk_drewN ?_ _ | refine blk_drew ?_ | refine blk_alloc ?_ _)); exact BK269.out) hb); have n3_ := Aside0.mk (below_step (by repeat (first | (with_reducible first | exact HB.out | apply below_alloc | apply pw_below_drewN | apply below_drew1 | refine below_set ?_ GE266.out | refine below_set ?_ GE269.out) | exact HB.out)) hb); have n4_ := Aside0.mk (hbox); have n5_ := Aside0.mk ((by rw [hg]; exact (below_size (by repeat (first | (with_reducible first | exact HB.out | apply below_alloc | apply pw_below_drewN | apply below_drew1 | refine below_set ?_ GE266.out | refine below_set ?_ GE269.out) | exact HB.out))) : w.heap.size ≤ gb272)); have n6_ := Aside0.mk ((by rw [hg]; exact (below_size (by repeat (first | (with_reducible first | exact HB.out | apply below_alloc | apply pw_below_drewN | apply below_drew1 | refine below_set ?_ GE266.out | refine below_set ?_ GE269.out) | exact HB.out))) : w.heap.size ≤ gb272)); have n7_ := Aside0.mk ((by rw [hg]; exact Nat.ne_of_lt (blk_lt (g := gb266) (o := .cells #[.int .i64 t264, .int .i64 t265] 27 (0, 0)) (by (with_reducible repeat (first | refine blk_drewN ?_ _ | refine blk_drew ?_ | refine blk_alloc ?_ _)); exact BK266.out)) : gb266 ≠ gb272)); have n8_ := Aside0.mk ((by rw [hg]; exact Nat.ne_of_gt (blk_lt (g := gb266) (o := .cells #[.int .i64 t264, .int .i64 t265] 27 (0, 0)) (by (with_reducible repeat (first | refine blk_drewN ?_ _ | refine blk_drew ?_ | refine blk_alloc ?_ _)); exact BK266.out)) : gb272 ≠ gb266)); have n9_ := Aside0.mk ((by rw [hg]; exact Nat.ne_of_lt (blk_lt (g := gb269) (o := .cells #[.int .i64 t267, .int .i64 t268] 27 (0, 0)) (by (with_reducible repeat (first | refine blk_drewN ?_ _ | refine blk_drew ?_ | refine blk_alloc ?_ _)); exact BK269.out)) : gb269 ≠ gb272)); have n10_ := Aside0.mk ((by rw [hg]; exact Nat.ne_of_gt (blk_lt (g := gb269) (o := .cells #[.int .i64 t267, .int .i64 t268] 27 (0, 0)) (by (with_reducible repeat (first | refine blk_drewN ?_ _ | refine blk_drew ?_ | refine blk_alloc ?_ _)); exact BK269.out)) : gb272 ≠ gb269)); clear HO_8; clear BK266; clear BK269; clear HB; have HO_8 := n0_; have BK266 := n1_; have BK269 := n2_; have HB := n3_; have BK272 := n4_; have GW272 := n5_; have GE272 := n6_; have NB266_272 := n7_; have NB272_266 := n8_; have NB269_272 := n9_; have NB272_269 := n10_; clear n0_ n1_ n2_ n3_ n4_ n5_ n6_ n7_ n8_ n9_ n10_; clear hb hbox hg; have hnb34 := NB272_266.out; have hnc34 := NB266_272.out; have hnb35 := NB272_269.out; have hnc35 := NB269_272.out; have hcz36_0 : w33.cell? ⟨gb272, 0, none⟩ = some (.int .i64 0) := (blk_cell BK272.out 0).trans rfl; have hcz36_1 : w33.cell? ⟨gb272, 1, none⟩ = some (.int .i64 0) := (blk_cell BK272.out 1).trans rfl; have hcz36_2 : w33.cell? ⟨gb272, 2, none⟩ = some (.int .i64 0) := (blk_cell BK272.out 2).trans rfl; have hcz36_3 : w33.cell? ⟨gb272, 3, none⟩ = some (.bool false) := (blk_cell BK272.out 3).trans rfl; have hfz36_0 := blk_frozen BK272.out 0; have hfz36_1 := blk_frozen BK272.out 1; have hfz36_2 := blk_frozen BK272.out 2; have hfz36_3 := blk_frozen BK272.out 3))
      (try simp only [Act.put, qa_, qz_, qs_])
      go_cut [] (fun wc => ∃ (kq : Nat) (x273002_29 : Int), Aside0 (partitalaw11_TempoSplit.j2 kq t260 t261 x11_7 t267 t268 t264 t265 x273002_29 false = some r) ∧ Aside0 (kq ≤ kj7) ∧ Aside0 (Kd.R k36 36 wc w.heap.size (fun k_ => k_ ≠ gb272) v262 t261) ∧ Aside0 (wc.heap[gb266]? = some (.cells #[.int .i64 t264, .int .i64 t265] 27 (0, 0))) ∧ Aside0 (wc.heap[gb269]? = some (.cells #[.int .i64 t267, .int .i64 t268] 27 (0, 0))) ∧ Aside0 (wc.heap[gb272]? = some (.cells #[.int .i64 t264, .int .i64 t265, .int .i64 x273002_29, .bool false] 36 (0, 0))) ∧ Aside0 (Below w.heap.size w wc))
      case first =>
        have H := HC30.out
        clear HC30
        by_cases c37 : x11_7 > 0
        · rw [if_pos c37] at H
          have c37b0 : decide (0 < x11_7) = true := decide_eq_true c37
          clear c37
          (first | rw [c37b0] | (simp only [i64_w, i32_w]; rw [c37b0]) | skip)
          obtain ⟨ji38, hji38⟩ : ∃ j_ : Int, (wrap64 (x11_7 - 1)) = j_ := ⟨_, rfl⟩
          replace H : (if 0 ≤ (ji38) then (if (ji38) < (t261.length : Int) then (if (((rd_T36 t261 (ji38)).f0.f0) == t264 && (((rd_T36 t261 (ji38)).f0.f1) == t265)) = true then (some t260) else (if (rd_T36 t261 (ji38)).f2 = true then (some t260) else (partitalaw11_TempoSplit.j2 kj7 t260 t261 x11_7 t267 t268 t264 t265 ((rd_T36 t261 (ji38)).f1) false))) else (none)) else (none)) = some r := by first | (rw [hji38] at H; exact H) | (simp only [hji38] at H ⊢; exact H)
          have hji38w : (IntKind.i64.wrap (x11_7 - 1)) = ji38 := (i64_w _).trans hji38
          by_cases c39 : 0 ≤ (ji38)
          · rw [if_pos c39] at H
            have c39b0 : decide (0 ≤ (ji38)) = true := decide_eq_true c39
            clear c39
            by_cases c40 : (ji38) < (t261.length : Int)
            · rw [if_pos c40] at H
              have c40b0 : decide ((ji38) < (t261.length : Int)) = true := decide_eq_true c40
              clear c40
              by_cases c41 : (((rd_T36 t261 (ji38)).f0.f0) == t264 && (((rd_T36 t261 (ji38)).f0.f1) == t265)) = true
              · rw [if_pos c41] at H
                have c41b0 : (((rd_T36 t261 (ji38)).f0.f0) == t264 && (((rd_T36 t261 (ji38)).f0.f1) == t265)) = true := c41
                (try (have c41b1 : decide (((rd_T36 t261 (ji38)).f0.f0) = t264 && (((rd_T36 t261 (ji38)).f0.f1) == t265)) = true := by simpa using c41))
                (try (have c41b2 : (((rd_T36 t261 (ji38)).f0.f0) == t264 && (((rd_T36 t261 (ji38)).f0.f1) == t265)) = true := by simpa using c41))
                clear c41
                obtain rfl := Option.some.inj H
                try go_wp2
                have n0_ : Aside0 (Kd.R k36 36 ((((w33.setCell ⟨gb272, 0, none⟩ (.int .i64 t264)).setCell ⟨gb272, 1, none⟩ (.int .i64 t265)).setCell ⟨gb272, 2, none⟩ (.int .i64 500000)).setCell ⟨gb272, 3, none⟩ (.bool false)) w.heap.size (fun k_ => k_ ≠ gb272) v262 t261) := ⟨by (with_reducible repeat (first | apply Kd.R_alloc | apply Kd.R_drewN | apply Kd.R_drew)); exact Kd.R_mono (Kd.R_far (p := ⟨gb272, 3, none⟩) (Kd.R_far (p := ⟨gb272, 2, none⟩) (Kd.R_far (p := ⟨gb272, 1, none⟩) (Kd.R_far (p := ⟨gb272, 0, none⟩) (Kd.R_mono HO_8.out (fun k_ hk => (⟨hk, hk.2⟩ : _ ∧ k_ ≠ gb272))) (fun _ hk => hk.2) (.int .i64 t264)) (fun _ hk => hk.2) (.int .i64 t265)) (fun _ hk => hk.2) (.int .i64 500000)) (fun _ hk => hk.2) (.bool false)) (fun _ hk => hk.1.2)⟩
                have n1_ : Aside0 (((((w33.setCell ⟨gb272, 0, none⟩ (.int .i64 t264)).setCell ⟨gb272, 1, none⟩ (.int .i64 t265)).setCell ⟨gb272, 2, none⟩ (.int .i64 500000)).setCell ⟨gb272, 3, none⟩ (.bool false)).heap[gb266]? = some (.cells #[.int .i64 t264, .int .i64 t265] 27 (0, 0))) := ⟨by (with_reducible repeat (first | refine blk_drewN ?_ _ | refine blk_drew ?_ | refine blk_alloc ?_ _)); refine blk_far ?_ NB266_272.out _; (with_reducible repeat (first | refine blk_drewN ?_ _ | refine blk_drew ?_ | refine blk_alloc ?_ _)); refine blk_far ?_ NB266_272.out _; (with_reducible repeat (first | refine blk_drewN ?_ _ | refine blk_drew ?_ | refine blk_alloc ?_ _)); refine blk_far ?_ NB266_272.out _; (with_reducible repeat (first | refine blk_drewN ?_ _ | refine blk_drew ?_ | refine blk_alloc ?_ _)); refine blk_far ?_ NB266_272.out _; (with_reducible repeat (first | refine blk_drewN ?_ _ | refine blk_drew ?_ | refine blk_alloc ?_ _)); exact BK266.out⟩
                have n2_ : Aside0 (((((w33.setCell ⟨gb272, 0, none⟩ (.int .i64 t264)).setCell ⟨gb272, 1, none⟩ (.int .i64 t265)).setCell ⟨gb272, 2, none⟩ (.int .i64 500000)).setCell ⟨gb272, 3, none⟩ (.bool false)).heap[gb269]? = some (.cells #[.int .i64 t267, .int .i64 t268] 27 (0, 0))) := ⟨by (with_reducible repeat (first | refine blk_drewN ?_ _ | refine blk_drew ?_ | refine blk_alloc ?_ _)); refine blk_far ?_ NB269_272.out _; (with_reducible repeat (first | refine blk_drewN ?_ _ | refine blk_drew ?_ | refine blk_alloc ?_ _)); refine blk_far ?_ NB269_272.out _; (with_reducible repeat (first | refine blk_drewN ?_ _ | refine blk_drew ?_ | refine blk_alloc ?_ _)); refine blk_far ?_ NB269_272.out _; (with_reducible repeat (first | refine blk_drewN ?_ _ | refine blk_drew ?_ | refine blk_alloc ?_ _)); refine blk_far ?_ NB269_272.out _; (with_reducible repeat (first | refine blk_drewN ?_ _ | refine blk_drew ?_ | refine blk_alloc ?_ _)); exact BK269.out⟩
                have n3_ : Aside0 (((((w33.setCell ⟨gb272, 0, none⟩ (.int .i64 t264)).setCell ⟨gb272, 1, none⟩ (.int .i64 t265)).setCell ⟨gb272, 2, none⟩ (.int .i64 500000)).setCell ⟨gb272, 3, none⟩ (.bool false)).heap[gb272]? = some (.cells #[.int .i64 t264, .int .i64 t265, .int .i64 500000, .bool false] 36 (0, 0))) := ⟨by (with_reducible repeat (first | refine blk_drewN ?_ _ | refine blk_drew ?_ | refine blk_alloc ?_ _)); refine blk_put (cs := #[.int .i64 t264, .int .i64 t265, .int .i64 500000, .bool false]) ?_ 3 _ rfl; (with_reducible repeat (first | refine blk_drewN ?_ _ | refine blk_drew ?_ | refine blk_alloc ?_ _)); refine blk_put (cs := #[.int .i64 t264, .int .i64 t265, .int .i64 0, .bool false]) ?_ 2 _ rfl; (with_reducible repeat (first | refine blk_drewN ?_ _ | refine blk_drew ?_ | refine blk_alloc ?_ _)); refine blk_put (cs := #[.int .i64 t264, .int .i64 0, .int .i64 0, .bool false]) ?_ 1 _ rfl; (with_reducible repeat (first | refine blk_drewN ?_ _ | refine blk_drew ?_ | refine blk_alloc ?_ _)); refine blk_put (cs := #[.int .i64 0, .int .i64 0, .int .i64 0, .bool false]) ?_ 0 _ rfl; (with_reducible repeat (first | refine blk_drewN ?_ _ | refine blk_drew ?_ | refine blk_alloc ?_ _)); exact BK272.out⟩
                have n4_ : Aside0 (Below w.heap.size w ((((w33.setCell ⟨gb272, 0, none⟩ (.int .i64 t264)).setCell ⟨gb272, 1, none⟩ (.int .i64 t265)).setCell ⟨gb272, 2, none⟩ (.int .i64 500000)).setCell ⟨gb272, 3, none⟩ (.bool false))) := ⟨by repeat (first | (with_reducible first | exact HB.out | apply below_alloc | apply pw_below_drewN | apply below_drew1 | refine below_set ?_ GE266.out | refine below_set ?_ GE269.out | refine below_set ?_ GE272.out) | exact HB.out)⟩
                (try clear HO_8)
                (try clear BK266)
                (try clear BK269)
                (try clear BK272)
                (try clear HB)
                generalize ((((w33.setCell ⟨gb272, 0, none⟩ (.int .i64 t264)).setCell ⟨gb272, 1, none⟩ (.int .i64 t265)).setCell ⟨gb272, 2, none⟩ (.int .i64 500000)).setCell ⟨gb272, 3, none⟩ (.bool false)) = w42 at n0_ n1_ n2_ n3_ n4_ ⊢
                have HO_8 := n0_
                have BK266 := n1_
                have BK269 := n2_
                have BK272 := n3_
                have HB := n4_
                clear n0_ n1_ n2_ n3_ n4_
                have n0_ := Aside0.mk (Kd.R_drew HO_8.out)
                have n1_ := Aside0.mk (blk_drew BK266.out)
                have n2_ := Aside0.mk (blk_drew BK269.out)
                have n3_ := Aside0.mk (blk_drew BK272.out)
                have n4_ := Aside0.mk (below_drew1 HB.out)
                clear HO_8
                clear BK266
                clear BK269
                clear BK272
                clear HB
                have HO_8 := n0_
                have BK266 := n1_
                have BK269 := n2_
                have BK272 := n3_
                have HB := n4_
                clear n0_ n1_ n2_ n3_ n4_
                obtain ⟨Ao44, co44, eo44⟩ := Kd.R_slice HO_8.out
                (first | subst eo44 | (injection eo44 with f1_ f2_ f3_; have f4_ := f1_.symm; have f5_ := f3_.symm; clear f1_ f2_ f3_; subst f4_; subst f5_))
                have p273 : 0 ≤ ((ji38) : Int) := of_decide_eq_true (by first | (with_reducible assumption) | assumption)
                have q273 : (ji38) < (t261.length : Int) := of_decide_eq_true (by first | (with_reducible assumption) | assumption)
                obtain ⟨ad273, e273, hx273_0, hx273_1, hx273_2, hx273_3⟩ := at_T36 (Kd.R_reads' HO_8.out).2.2 (ji38) p273 q273
                cases e273
                replace p273 := eq_true p273
                replace q273 := eq_true q273
                refine start_ (n := 16) (S := fun w' => w'.cell? ⟨gb266, 0, none⟩ = some (.int .i64 t264) ∧ w'.cell? ⟨gb266, 1, none⟩ = some (.int .i64 t265) ∧ w'.cell? (ad273.add (((ji38)).toNat * 4)) = some (.int .i64 ((rd_T36 t261 (ji38)).f0.f0)) ∧ w'.cell? ⟨(ad273.add (((ji38)).toNat * 4)).block, (ad273.add (((ji38)).toNat * 4)).off + 1, none⟩ = some (.int .i64 ((rd_T36 t261 (ji38)).f0.f1)) ∧ w'.cell? ⟨(ad273.add (((ji38)).toNat * 4)).block, (ad273.add (((ji38)).toNat * 4)).off + 2, none⟩ = some (.int .i64 ((rd_T36 t261 (ji38)).f1)) ∧ w'.cell? ⟨(ad273.add (((ji38)).toNat * 4)).block, (ad273.add (((ji38)).toNat * 4)).off + 3, none⟩ = some (.bool ((rd_T36 t261 (ji38)).f2))) (ds := []) #[false, false, false, false, false, false, false, false, false, false, false, false, false, false, false, false] (by kernel_rfl) rfl rfl ⟨(blk_cell BK266.out 0).trans rfl, (blk_cell BK266.out 1).trans rfl, hx273_0, hx273_1, hx273_2, hx273_3⟩ (fun hHeld => ?_); refine with_tabW partitalaw11_TempoSplit.tab10 partitalaw11_TempoSplit.bits10 (fun HT_ HW_ => ?_)
                generalize w42.drew = w43 at HO_8 BK266 BK269 BK272 HB hx273_0 hx273_1 hx273_2 hx273_3 hHeld ⊢
                refine pure_ (i := 0) (N := some 51) (v := ?_) (a' := ?_) #[true, false, false, false, false, false, false, false, false, false, false, false, false, false, false, false] rfl rfl (any_of HT_.out (by kernel_rfl)) (fun _ _ _ h => h) (Or.inl ⟨by rfl, ?_⟩) ?_ ?_
                rotate_left
                · intro w'
                  go_simp
                  with_reducible rfl
                rotate_left
                · simp only [Act.put, List.setIfInBounds_toArray, List.set_cons_zero, List.set_cons_succ, i64_w, i32_w]
                  rfl
                refine pure_ (i := 1) (N := some 52) (v := ?_) (a' := ?_) #[true, true, false, false, false, false, false, false, false, false, false, false, false, false, false, false] rfl rfl (any_of HT_.out (by kernel_rfl)) (fun _ _ _ h => h) (Or.inl ⟨by rfl, ?_⟩) ?_ ?_
                rotate_left
                · intro w'
                  go_simp
                  with_reducible rfl
                rotate_left
                · simp only [Act.put, List.setIfInBounds_toArray, List.set_cons_zero, List.set_cons_succ, i64_w, i32_w]
                  rfl
                refine pure_ (i := 2) (N := some 53) (v := ?_) (a' := ?_) #[true, true, true, false, false, false, false, false, false, false, false, false, false, false, false, false] rfl rfl (any_of HT_.out (by kernel_rfl)) (fun _ _ _ h => h) (Or.inl ⟨by rfl, ?_⟩) ?_ ?_
                rotate_left
                · intro w'
                  go_simp
                  with_reducible rfl
                rotate_left
                · simp only [Act.put, List.setIfInBounds_toArray, List.set_cons_zero, List.set_cons_succ, i64_w, i32_w]
                  rfl
                refine pure_ (i := 3) (N := some 54) (v := ?_) (a' := ?_) #[true, true, true, true, false, false, false, false, false, false, false, false, false, false, false, false] rfl rfl (any_of HT_.out (by kernel_rfl)) (fun _ _ _ h => h) (Or.inl ⟨by rfl, ?_⟩) ?_ ?_
                rotate_left
                · intro w'
                  go_simp
                  with_reducible rfl
                rotate_left
                · simp only [Act.put, List.setIfInBounds_toArray, List.set_cons_zero, List.set_cons_succ, i64_w, i32_w]
                  rfl
                refine pure_ (i := 4) (N := some 55) (v := ?_) (a' := ?_) #[true, true, true, true, true, false, false, false, false, false, false, false, false, false, false, false] rfl rfl (any_of HT_.out (by kernel_rfl)) (fun _ _ _ h => h) (Or.inl ⟨by rfl, ?_⟩) ?_ ?_
                rotate_left
                · intro w'
                  go_simp
                  with_reducible rfl
                rotate_left
                · simp only [Act.put, List.setIfInBounds_toArray, List.set_cons_zero, List.set_cons_succ, i64_w, i32_w]
                  rfl
                refine take_ (i := 5) (N := some 56) (v := ?_) (a' := ?_) #[true, true, true, true, true, true, false, false, false, false, false, false, false, false, false, false] rfl rfl (take_ofW HT_.out HW_.out (by kernel_rfl)) (fun _ _ _ h => h) (Or.inl ⟨by rfl, ?_⟩) hHeld ?_ ?_
                rotate_left
                · rintro w' ⟨s0, s1, s2, s3, s4, s5⟩
                  go_simp
                  with_reducible rfl
                rotate_left
                · simp only [Act.put, List.setIfInBounds_toArray, List.set_cons_zero, List.set_cons_succ, i64_w, i32_w]
                  rfl
                refine take_ (i := 6) (N := some 57) (v := ?_) (a' := ?_) #[true, true, true, true, true, true, true, false, false, false, false, false, false, false, false, false] rfl rfl (take_ofW HT_.out HW_.out (by kernel_rfl)) (fun _ _ _ h => h) (Or.inl ⟨by rfl, ?_⟩) hHeld ?_ ?_
                rotate_left
                · rintro w' ⟨s0, s1, s2, s3, s4, s5⟩
                  go_simp
                  with_reducible rfl
                rotate_left
                · simp only [Act.put, List.setIfInBounds_toArray, List.set_cons_zero, List.set_cons_succ, i64_w, i32_w]
                  rfl
                refine pure_ (i := 7) (N := some 58) (v := ?_) (a' := ?_) #[true, true, true, true, true, true, true, true, false, false, false, false, false, false, false, false] rfl rfl (any_of HT_.out (by kernel_rfl)) (fun _ _ _ h => h) (Or.inl ⟨by rfl, ?_⟩) ?_ ?_
                rotate_left
                · intro w'
                  go_simp
                  with_reducible rfl
                rotate_left
                · simp only [Act.put, List.setIfInBounds_toArray, List.set_cons_zero, List.set_cons_succ, i64_w, i32_w]
                  rfl
                refine pure_ (i := 8) (N := some 59) (v := ?_) (a' := ?_) #[true, true, true, true, true, true, true, true, true, false, false, false, false, false, false, false] rfl rfl (any_of HT_.out (by kernel_rfl)) (fun _ _ _ h => h) (Or.inl ⟨by rfl, ?_⟩) ?_ ?_
                rotate_left
                · intro w'
                  go_simp
                  with_reducible rfl
                rotate_left
                · simp only [Act.put, List.setIfInBounds_toArray, List.set_cons_zero, List.set_cons_succ, i64_w, i32_w]
                  rfl
                refine pure_ (i := 9) (N := some 60) (v := undef) (a' := ?_) #[true, true, true, true, true, true, true, true, true, true, false, false, false, false, false, false] rfl rfl (any_of HT_.out (by kernel_rfl)) (fun _ _ _ h => h) (Or.inr ⟨by rfl, rfl⟩) ?_ ?_
                rotate_left
                · simp only [Act.put, List.setIfInBounds_toArray, List.set_cons_zero, List.set_cons_succ, i64_w, i32_w]
                  rfl
                refine pure_ (i := 10) (N := some 61) (v := undef) (a' := ?_) #[true, true, true, true, true, true, true, true, true, true, true, false, false, false, false, false] rfl rfl (any_of HT_.out (by kernel_rfl)) (fun _ _ _ h => h) (Or.inr ⟨by rfl, rfl⟩) ?_ ?_
                rotate_left
                · simp only [Act.put, List.setIfInBounds_toArray, List.set_cons_zero, List.set_cons_succ, i64_w, i32_w]
                  rfl
                refine pure_ (i := 11) (N := some 62) (v := undef) (a' := ?_) #[true, true, true, true, true, true, true, true, true, true, true, true, false, false, false, false] rfl rfl (any_of HT_.out (by kernel_rfl)) (fun _ _ _ h => h) (Or.inr ⟨by rfl, rfl⟩) ?_ ?_
                rotate_left
                · simp only [Act.put, List.setIfInBounds_toArray, List.set_cons_zero, List.set_cons_succ, i64_w, i32_w]
                  rfl
                refine pure_ (i := 12) (N := some 63) (v := undef) (a' := ?_) #[true, true, true, true, true, true, true, true, true, true, true, true, true, false, false, false] rfl rfl (any_of HT_.out (by kernel_rfl)) (fun _ _ _ h => h) (Or.inr ⟨by rfl, rfl⟩) ?_ ?_
                rotate_left
                · simp only [Act.put, List.setIfInBounds_toArray, List.set_cons_zero, List.set_cons_succ, i64_w, i32_w]
                  rfl
                refine pure_ (i := 13) (N := some 64) (v := undef) (a' := ?_) #[true, true, true, true, true, true, true, true, true, true, true, true, true, true, false, false] rfl rfl (any_of HT_.out (by kernel_rfl)) (fun _ _ _ h => h) (Or.inr ⟨by rfl, rfl⟩) ?_ ?_
                rotate_left
                · simp only [Act.put, List.setIfInBounds_toArray, List.set_cons_zero, List.set_cons_succ, i64_w, i32_w]
                  rfl
                refine pure_ (i := 14) (N := some 65) (v := undef) (a' := ?_) #[true, true, true, true, true, true, true, true, true, true, true, true, true, true, true, false] rfl rfl (any_of HT_.out (by kernel_rfl)) (fun _ _ _ h => h) (Or.inr ⟨by rfl, rfl⟩) ?_ ?_
                rotate_left
                · simp only [Act.put, List.setIfInBounds_toArray, List.set_cons_zero, List.set_cons_succ, i64_w, i32_w]
                  rfl
                refine pure_ (i := 15) (N := some 66) (v := ?_) (a' := ?_) #[true, true, true, true, true, true, true, true, true, true, true, true, true, true, true, true] rfl rfl (any_of HT_.out (by kernel_rfl)) (fun _ _ _ h => h) (Or.inl ⟨by rfl, ?_⟩) ?_ ?_
                rotate_left
                · intro w'
                  go_simp
                  with_reducible rfl
                rotate_left
                · simp only [Act.put, List.setIfInBounds_toArray, List.set_cons_zero, List.set_cons_succ, i64_w, i32_w]
                  rfl
                refine done_ (done_of HT_.out (by kernel_rfl)) ?_
                try go_wp2
                go_ret
                exact ⟨by first | rfl | (simp [errW_none, errW_some] <;> rfl) | (simp only [← hji38]; first | rfl | (simp [errW_none, errW_some] <;> rfl)) | (simp [*, errW_none, errW_some] <;> rfl), by repeat (first | (with_reducible first | exact HB.out | apply below_alloc | apply pw_below_drewN | apply below_drew1 | refine below_set ?_ GE266.out | refine below_set ?_ GE269.out | refine below_set ?_ GE272.out) | exact HB.out)⟩
              · rw [if_neg c41] at H
                have c41b0 : (((rd_T36 t261 (ji38)).f0.f0) == t264 && (((rd_T36 t261 (ji38)).f0.f1) == t265)) = false := by simpa using c41
                (try (have c41b1 : decide (((rd_T36 t261 (ji38)).f0.f0) = t264 && (((rd_T36 t261 (ji38)).f0.f1) == t265)) = false := by simpa using c41))
                (try (have c41b2 : (((rd_T36 t261 (ji38)).f0.f0) == t264 && (((rd_T36 t261 (ji38)).f0.f1) == t265)) = false := by simpa using c41))
                (try (have c41b3 : ¬ (((rd_T36 t261 (ji38)).f0.f0) = t264 && (((rd_T36 t261 (ji38)).f0.f1) == t265)) := by simpa using c41))
                clear c41
                obtain ⟨bq45, hbq45⟩ : ∃ b_ : Bool, b_ = ((rd_T36 t261 (ji38)).f2) := ⟨_, rfl⟩
                replace H : (if bq45 = true then (some t260) else (partitalaw11_TempoSplit.j2 kj7 t260 t261 x11_7 t267 t268 t264 t265 ((rd_T36 t261 (ji38)).f1) false)) = some r := by rw [← hbq45] at H; exact H
                have Nbq45 := Aside0.mk hbq45
                clear hbq45
                by_cases c46 : bq45 = true
                · subst c46
                  have H1 : (some t260) = some r := by rw [if_pos rfl] at H; exact H
                  clear H
                  have H := H1
                  clear H1
                  obtain rfl := Option.some.inj H
                  try go_wp2
                  have n0_ : Aside0 (Kd.R k36 36 ((((w33.setCell ⟨gb272, 0, none⟩ (.int .i64 t264)).setCell ⟨gb272, 1, none⟩ (.int .i64 t265)).setCell ⟨gb272, 2, none⟩ (.int .i64 500000)).setCell ⟨gb272, 3, none⟩ (.bool false)) w.heap.size (fun k_ => k_ ≠ gb272) v262 t261) := ⟨by (with_reducible repeat (first | apply Kd.R_alloc | apply Kd.R_drewN | apply Kd.R_drew)); exact Kd.R_mono (Kd.R_far (p := ⟨gb272, 3, none⟩) (Kd.R_far (p := ⟨gb272, 2, none⟩) (Kd.R_far (p := ⟨gb272, 1, none⟩) (Kd.R_far (p := ⟨gb272, 0, none⟩) (Kd.R_mono HO_8.out (fun k_ hk => (⟨hk, hk.2⟩ : _ ∧ k_ ≠ gb272))) (fun _ hk => hk.2) (.int .i64 t264)) (fun _ hk => hk.2) (.int .i64 t265)) (fun _ hk => hk.2) (.int .i64 500000)) (fun _ hk => hk.2) (.bool false)) (fun _ hk => hk.1.2)⟩
                  have n1_ : Aside0 (((((w33.setCell ⟨gb272, 0, none⟩ (.int .i64 t264)).setCell ⟨gb272, 1, none⟩ (.int .i64 t265)).setCell ⟨gb272, 2, none⟩ (.int .i64 500000)).setCell ⟨gb272, 3, none⟩ (.bool false)).heap[gb266]? = some (.cells #[.int .i64 t264, .int .i64 t265] 27 (0, 0))) := ⟨by (with_reducible repeat (first | refine blk_drewN ?_ _ | refine blk_drew ?_ | refine blk_alloc ?_ _)); refine blk_far ?_ NB266_272.out _; (with_reducible repeat (first | refine blk_drewN ?_ _ | refine blk_drew ?_ | refine blk_alloc ?_ _)); refine blk_far ?_ NB266_272.out _; (with_reducible repeat (first | refine blk_drewN ?_ _ | refine blk_drew ?_ | refine blk_alloc ?_ _)); refine blk_far ?_ NB266_272.out _; (with_reducible repeat (first | refine blk_drewN ?_ _ | refine blk_drew ?_ | refine blk_alloc ?_ _)); refine blk_far ?_ NB266_272.out _; (with_reducible repeat (first | refine blk_drewN ?_ _ | refine blk_drew ?_ | refine blk_alloc ?_ _)); exact BK266.out⟩
                  have n2_ : Aside0 (((((w33.setCell ⟨gb272, 0, none⟩ (.int .i64 t264)).setCell ⟨gb272, 1, none⟩ (.int .i64 t265)).setCell ⟨gb272, 2, none⟩ (.int .i64 500000)).setCell ⟨gb272, 3, none⟩ (.bool false)).heap[gb269]? = some (.cells #[.int .i64 t267, .int .i64 t268] 27 (0, 0))) := ⟨by (with_reducible repeat (first | refine blk_drewN ?_ _ | refine blk_drew ?_ | refine blk_alloc ?_ _)); refine blk_far ?_ NB269_272.out _; (with_reducible repeat (first | refine blk_drewN ?_ _ | refine blk_drew ?_ | refine blk_alloc ?_ _)); refine blk_far ?_ NB269_272.out _; (with_reducible repeat (first | refine blk_drewN ?_ _ | refine blk_drew ?_ | refine blk_alloc ?_ _)); refine blk_far ?_ NB269_272.out _; (with_reducible repeat (first | refine blk_drewN ?_ _ | refine blk_drew ?_ | refine blk_alloc ?_ _)); refine blk_far ?_ NB269_272.out _; (with_reducible repeat (first | refine blk_drewN ?_ _ | refine blk_drew ?_ | refine blk_alloc ?_ _)); exact BK269.out⟩
                  have n3_ : Aside0 (((((w33.setCell ⟨gb272, 0, none⟩ (.int .i64 t264)).setCell ⟨gb272, 1, none⟩ (.int .i64 t265)).setCell ⟨gb272, 2, none⟩ (.int .i64 500000)).setCell ⟨gb272, 3, none⟩ (.bool false)).heap[gb272]? = some (.cells #[.int .i64 t264, .int .i64 t265, .int .i64 500000, .bool false] 36 (0, 0))) := ⟨by (with_reducible repeat (first | refine blk_drewN ?_ _ | refine blk_drew ?_ | refine blk_alloc ?_ _)); refine blk_put (cs := #[.int .i64 t264, .int .i64 t265, .int .i64 500000, .bool false]) ?_ 3 _ rfl; (with_reducible repeat (first | refine blk_drewN ?_ _ | refine blk_drew ?_ | refine blk_alloc ?_ _)); refine blk_put (cs := #[.int .i64 t264, .int .i64 t265, .int .i64 0, .bool false]) ?_ 2 _ rfl; (with_reducible repeat (first | refine blk_drewN ?_ _ | refine blk_drew ?_ | refine blk_alloc ?_ _)); refine blk_put (cs := #[.int .i64 t264, .int .i64 0, .int .i64 0, .bool false]) ?_ 1 _ rfl; (with_reducible repeat (first | refine blk_drewN ?_ _ | refine blk_drew ?_ | refine blk_alloc ?_ _)); refine blk_put (cs := #[.int .i64 0, .int .i64 0, .int .i64 0, .bool false]) ?_ 0 _ rfl; (with_reducible repeat (first | refine blk_drewN ?_ _ | refine blk_drew ?_ | refine blk_alloc ?_ _)); exact BK272.out⟩
                  have n4_ : Aside0 (Below w.heap.size w ((((w33.setCell ⟨gb272, 0, none⟩ (.int .i64 t264)).setCell ⟨gb272, 1, none⟩ (.int .i64 t265)).setCell ⟨gb272, 2, none⟩ (.int .i64 500000)).setCell ⟨gb272, 3, none⟩ (.bool false))) := ⟨by repeat (first | (with_reducible first | exact HB.out | apply below_alloc | apply pw_below_drewN | apply below_drew1 | refine below_set ?_ GE266.out | refine below_set ?_ GE269.out | refine below_set ?_ GE272.out) | exact HB.out)⟩
                  (try clear HO_8)
                  (try clear BK266)
                  (try clear BK269)
                  (try clear BK272)
                  (try clear HB)
                  generalize ((((w33.setCell ⟨gb272, 0, none⟩ (.int .i64 t264)).setCell ⟨gb272, 1, none⟩ (.int .i64 t265)).setCell ⟨gb272, 2, none⟩ (.int .i64 500000)).setCell ⟨gb272, 3, none⟩ (.bool false)) = w47 at n0_ n1_ n2_ n3_ n4_ ⊢
                  have HO_8 := n0_
                  have BK266 := n1_
                  have BK269 := n2_
                  have BK272 := n3_
                  have HB := n4_
                  clear n0_ n1_ n2_ n3_ n4_
                  have n0_ := Aside0.mk (Kd.R_drew HO_8.out)
                  have n1_ := Aside0.mk (blk_drew BK266.out)
                  have n2_ := Aside0.mk (blk_drew BK269.out)
                  have n3_ := Aside0.mk (blk_drew BK272.out)
                  have n4_ := Aside0.mk (below_drew1 HB.out)
                  clear HO_8
                  clear BK266
                  clear BK269
                  clear BK272
                  clear HB
                  have HO_8 := n0_
                  have BK266 := n1_
                  have BK269 := n2_
                  have BK272 := n3_
                  have HB := n4_
                  clear n0_ n1_ n2_ n3_ n4_
                  obtain ⟨Ao49, co49, eo49⟩ := Kd.R_slice HO_8.out
                  (first | subst eo49 | (injection eo49 with f1_ f2_ f3_; have f4_ := f1_.symm; have f5_ := f3_.symm; clear f1_ f2_ f3_; subst f4_; subst f5_))
                  have p273 : 0 ≤ ((ji38) : Int) := of_decide_eq_true (by first | (with_reducible assumption) | assumption)
                  have q273 : (ji38) < (t261.length : Int) := of_decide_eq_true (by first | (with_reducible assumption) | assumption)
                  obtain ⟨ad273, e273, hx273_0, hx273_1, hx273_2, hx273_3⟩ := at_T36 (Kd.R_reads' HO_8.out).2.2 (ji38) p273 q273
                  (try rw [← Nbq45.out] at hx273_3)
                  cases e273
                  replace p273 := eq_true p273
                  replace q273 := eq_true q273
                  have p274 : 0 ≤ ((ji38) : Int) := of_decide_eq_true (by first | (with_reducible assumption) | assumption)
                  have q274 : (ji38) < (t261.length : Int) := of_decide_eq_true (by first | (with_reducible assumption) | assumption)
                  obtain ⟨ad274, e274, hx274_0, hx274_1, hx274_2, hx274_3⟩ := at_T36 (Kd.R_reads' HO_8.out).2.2 (ji38) p274 q274
                  (try rw [← Nbq45.out] at hx274_3)
                  obtain rfl : ad273 = ad274 := (by injection e274)
                  replace p274 := eq_true p274
                  replace q274 := eq_true q274
                  refine start_ (n := 16) (S := fun w' => w'.cell? ⟨gb266, 0, none⟩ = some (.int .i64 t264) ∧ w'.cell? ⟨gb266, 1, none⟩ = some (.int .i64 t265) ∧ w'.cell? (ad273.add (((ji38)).toNat * 4)) = some (.int .i64 ((rd_T36 t261 (ji38)).f0.f0)) ∧ w'.cell? ⟨(ad273.add (((ji38)).toNat * 4)).block, (ad273.add (((ji38)).toNat * 4)).off + 1, none⟩ = some (.int .i64 ((rd_T36 t261 (ji38)).f0.f1)) ∧ w'.cell? ⟨(ad273.add (((ji38)).toNat * 4)).block, (ad273.add (((ji38)).toNat * 4)).off + 2, none⟩ = some (.int .i64 ((rd_T36 t261 (ji38)).f1)) ∧ w'.cell? ⟨(ad273.add (((ji38)).toNat * 4)).block, (ad273.add (((ji38)).toNat * 4)).off + 3, none⟩ = some (.bool true) ∧ w'.cell? (ad273.add (((ji38)).toNat * 4)) = some (.int .i64 ((rd_T36 t261 (ji38)).f0.f0)) ∧ w'.cell? ⟨(ad273.add (((ji38)).toNat * 4)).block, (ad273.add (((ji38)).toNat * 4)).off + 1, none⟩ = some (.int .i64 ((rd_T36 t261 (ji38)).f0.f1)) ∧ w'.cell? ⟨(ad273.add (((ji38)).toNat * 4)).block, (ad273.add (((ji38)).toNat * 4)).off + 2, none⟩ = some (.int .i64 ((rd_T36 t261 (ji38)).f1)) ∧ w'.cell? ⟨(ad273.add (((ji38)).toNat * 4)).block, (ad273.add (((ji38)).toNat * 4)).off + 3, none⟩ = some (.bool true)) (ds := []) #[false, false, false, false, false, false, false, false, false, false, false, false, false, false, false, false] (by kernel_rfl) rfl rfl ⟨(blk_cell BK266.out 0).trans rfl, (blk_cell BK266.out 1).trans rfl, hx273_0, hx273_1, hx273_2, hx273_3, hx274_0, hx274_1, hx274_2, hx274_3⟩ (fun hHeld => ?_); refine with_tabW partitalaw11_TempoSplit.tab10 partitalaw11_TempoSplit.bits10 (fun HT_ HW_ => ?_)
                  generalize w47.drew = w48 at HO_8 BK266 BK269 BK272 HB hx273_0 hx273_1 hx273_2 hx273_3 hx274_0 hx274_1 hx274_2 hx274_3 hHeld ⊢
                  refine pure_ (i := 0) (N := some 51) (v := ?_) (a' := ?_) #[true, false, false, false, false, false, false, false, false, false, false, false, false, false, false, false] rfl rfl (any_of HT_.out (by kernel_rfl)) (fun _ _ _ h => h) (Or.inl ⟨by rfl, ?_⟩) ?_ ?_
                  rotate_left
                  · intro w'
                    go_simp
                    with_reducible rfl
                  rotate_left
                  · simp only [Act.put, List.setIfInBounds_toArray, List.set_cons_zero, List.set_cons_succ, i64_w, i32_w]
                    rfl
                  refine pure_ (i := 1) (N := some 52) (v := ?_) (a' := ?_) #[true, true, false, false, false, false, false, false, false, false, false, false, false, false, false, false] rfl rfl (any_of HT_.out (by kernel_rfl)) (fun _ _ _ h => h) (Or.inl ⟨by rfl, ?_⟩) ?_ ?_
                  rotate_left
                  · intro w'
                    go_simp
                    with_reducible rfl
                  rotate_left
                  · simp only [Act.put, List.setIfInBounds_toArray, List.set_cons_zero, List.set_cons_succ, i64_w, i32_w]
                    rfl
                  refine pure_ (i := 2) (N := some 53) (v := ?_) (a' := ?_) #[true, true, true, false, false, false, false, false, false, false, false, false, false, false, false, false] rfl rfl (any_of HT_.out (by kernel_rfl)) (fun _ _ _ h => h) (Or.inl ⟨by rfl, ?_⟩) ?_ ?_
                  rotate_left
                  · intro w'
                    go_simp
                    with_reducible rfl
                  rotate_left
                  · simp only [Act.put, List.setIfInBounds_toArray, List.set_cons_zero, List.set_cons_succ, i64_w, i32_w]
                    rfl
                  refine pure_ (i := 3) (N := some 54) (v := ?_) (a' := ?_) #[true, true, true, true, false, false, false, false, false, false, false, false, false, false, false, false] rfl rfl (any_of HT_.out (by kernel_rfl)) (fun _ _ _ h => h) (Or.inl ⟨by rfl, ?_⟩) ?_ ?_
                  rotate_left
                  · intro w'
                    go_simp
                    with_reducible rfl
                  rotate_left
                  · simp only [Act.put, List.setIfInBounds_toArray, List.set_cons_zero, List.set_cons_succ, i64_w, i32_w]
                    rfl
                  refine pure_ (i := 4) (N := some 55) (v := ?_) (a' := ?_) #[true, true, true, true, true, false, false, false, false, false, false, false, false, false, false, false] rfl rfl (any_of HT_.out (by kernel_rfl)) (fun _ _ _ h => h) (Or.inl ⟨by rfl, ?_⟩) ?_ ?_
                  rotate_left
                  · intro w'
                    go_simp
                    with_reducible rfl
                  rotate_left
                  · simp only [Act.put, List.setIfInBounds_toArray, List.set_cons_zero, List.set_cons_succ, i64_w, i32_w]
                    rfl
                  refine take_ (i := 5) (N := some 56) (v := ?_) (a' := ?_) #[true, true, true, true, true, true, false, false, false, false, false, false, false, false, false, false] rfl rfl (take_ofW HT_.out HW_.out (by kernel_rfl)) (fun _ _ _ h => h) (Or.inl ⟨by rfl, ?_⟩) hHeld ?_ ?_
                  rotate_left
                  · rintro w' ⟨s0, s1, s2, s3, s4, s5, s6, s7, s8, s9⟩
                    go_simp
                    with_reducible rfl
                  rotate_left
                  · simp only [Act.put, List.setIfInBounds_toArray, List.set_cons_zero, List.set_cons_succ, i64_w, i32_w]
                    rfl
                  refine take_ (i := 6) (N := some 57) (v := ?_) (a' := ?_) #[true, true, true, true, true, true, true, false, false, false, false, false, false, false, false, false] rfl rfl (take_ofW HT_.out HW_.out (by kernel_rfl)) (fun _ _ _ h => h) (Or.inl ⟨by rfl, ?_⟩) hHeld ?_ ?_
                  rotate_left
                  · rintro w' ⟨s0, s1, s2, s3, s4, s5, s6, s7, s8, s9⟩
                    go_simp
                    with_reducible rfl
                  rotate_left
                  · simp only [Act.put, List.setIfInBounds_toArray, List.set_cons_zero, List.set_cons_succ, i64_w, i32_w]
                    rfl
                  refine pure_ (i := 7) (N := some 58) (v := ?_) (a' := ?_) #[true, true, true, true, true, true, true, true, false, false, false, false, false, false, false, false] rfl rfl (any_of HT_.out (by kernel_rfl)) (fun _ _ _ h => h) (Or.inl ⟨by rfl, ?_⟩) ?_ ?_
                  rotate_left
                  · intro w'
                    go_simp
                    with_reducible rfl
                  rotate_left
                  · simp only [Act.put, List.setIfInBounds_toArray, List.set_cons_zero, List.set_cons_succ, i64_w, i32_w]
                    rfl
                  refine pure_ (i := 8) (N := some 59) (v := ?_) (a' := ?_) #[true, true, true, true, true, true, true, true, true, false, false, false, false, false, false, false] rfl rfl (any_of HT_.out (by kernel_rfl)) (fun _ _ _ h => h) (Or.inl ⟨by rfl, ?_⟩) ?_ ?_
                  rotate_left
                  · intro w'
                    go_simp
                    with_reducible rfl
                  rotate_left
                  · simp only [Act.put, List.setIfInBounds_toArray, List.set_cons_zero, List.set_cons_succ, i64_w, i32_w]
                    rfl
                  refine pure_ (i := 9) (N := some 60) (v := ?_) (a' := ?_) #[true, true, true, true, true, true, true, true, true, true, false, false, false, false, false, false] rfl rfl (any_of HT_.out (by kernel_rfl)) (fun _ _ _ h => h) (Or.inl ⟨by rfl, ?_⟩) ?_ ?_
                  rotate_left
                  · intro w'
                    go_simp
                    with_reducible rfl
                  rotate_left
                  · simp only [Act.put, List.setIfInBounds_toArray, List.set_cons_zero, List.set_cons_succ, i64_w, i32_w]
                    rfl
                  refine pure_ (i := 10) (N := some 61) (v := ?_) (a' := ?_) #[true, true, true, true, true, true, true, true, true, true, true, false, false, false, false, false] rfl rfl (any_of HT_.out (by kernel_rfl)) (fun _ _ _ h => h) (Or.inl ⟨by rfl, ?_⟩) ?_ ?_
                  rotate_left
                  · intro w'
                    go_simp
                    with_reducible rfl
                  rotate_left
                  · simp only [Act.put, List.setIfInBounds_toArray, List.set_cons_zero, List.set_cons_succ, i64_w, i32_w]
                    rfl
                  refine pure_ (i := 11) (N := some 62) (v := ?_) (a' := ?_) #[true, true, true, true, true, true, true, true, true, true, true, true, false, false, false, false] rfl rfl (any_of HT_.out (by kernel_rfl)) (fun _ _ _ h => h) (Or.inl ⟨by rfl, ?_⟩) ?_ ?_
                  rotate_left
                  · intro w'
                    go_simp
                    with_reducible rfl
                  rotate_left
                  · simp only [Act.put, List.setIfInBounds_toArray, List.set_cons_zero, List.set_cons_succ, i64_w, i32_w]
                    rfl
                  refine pure_ (i := 12) (N := some 63) (v := ?_) (a' := ?_) #[true, true, true, true, true, true, true, true, true, true, true, true, true, false, false, false] rfl rfl (any_of HT_.out (by kernel_rfl)) (fun _ _ _ h => h) (Or.inl ⟨by rfl, ?_⟩) ?_ ?_
                  rotate_left
                  · intro w'
                    go_simp
                    with_reducible rfl
                  rotate_left
                  · simp only [Act.put, List.setIfInBounds_toArray, List.set_cons_zero, List.set_cons_succ, i64_w, i32_w]
                    rfl
                  refine pure_ (i := 13) (N := some 64) (v := ?_) (a' := ?_) #[true, true, true, true, true, true, true, true, true, true, true, true, true, true, false, false] rfl rfl (any_of HT_.out (by kernel_rfl)) (fun _ _ _ h => h) (Or.inl ⟨by rfl, ?_⟩) ?_ ?_
                  rotate_left
                  · intro w'
                    go_simp
                    with_reducible rfl
                  rotate_left
                  · simp only [Act.put, List.setIfInBounds_toArray, List.set_cons_zero, List.set_cons_succ, i64_w, i32_w]
                    rfl
                  refine take_ (i := 14) (N := some 65) (v := ?_) (a' := ?_) #[true, true, true, true, true, true, true, true, true, true, true, true, true, true, true, false] rfl rfl (take_ofW HT_.out HW_.out (by kernel_rfl)) (fun _ _ _ h => h) (Or.inl ⟨by rfl, ?_⟩) hHeld ?_ ?_
                  rotate_left
                  · rintro w' ⟨s0, s1, s2, s3, s4, s5, s6, s7, s8, s9⟩
                    go_simp
                    with_reducible rfl
                  rotate_left
                  · simp only [Act.put, List.setIfInBounds_toArray, List.set_cons_zero, List.set_cons_succ, i64_w, i32_w]
                    rfl
                  refine pure_ (i := 15) (N := some 66) (v := ?_) (a' := ?_) #[true, true, true, true, true, true, true, true, true, true, true, true, true, true, true, true] rfl rfl (any_of HT_.out (by kernel_rfl)) (fun _ _ _ h => h) (Or.inl ⟨by rfl, ?_⟩) ?_ ?_
                  rotate_left
                  · intro w'
                    go_simp
                    with_reducible rfl
                  rotate_left
                  · simp only [Act.put, List.setIfInBounds_toArray, List.set_cons_zero, List.set_cons_succ, i64_w, i32_w]
                    rfl
                  refine done_ (done_of HT_.out (by kernel_rfl)) ?_
                  try go_wp2
                  go_ret
                  exact ⟨by first | rfl | (simp [errW_none, errW_some] <;> rfl) | (simp only [← hji38]; first | rfl | (simp [errW_none, errW_some] <;> rfl)) | (simp [*, errW_none, errW_some] <;> rfl), by repeat (first | (with_reducible first | exact HB.out | apply below_alloc | apply pw_below_drewN | apply below_drew1 | refine below_set ?_ GE266.out | refine below_set ?_ GE269.out | refine below_set ?_ GE272.out) | exact HB.out)⟩
                · replace c46 := Bool.eq_false_iff.mpr c46
                  subst c46
                  have H1 : (partitalaw11_TempoSplit.j2 kj7 t260 t261 x11_7 t267 t268 t264 t265 ((rd_T36 t261 (ji38)).f1) false) = some r := by rw [if_neg (show ¬ (false = true) by decide)] at H; exact H
                  clear H
                  have H := H1
                  clear H1
                  have H' := Aside0.mk H
                  clear H
                  try go_wp2
                  have n0_ : Aside0 (Kd.R k36 36 ((((w33.setCell ⟨gb272, 0, none⟩ (.int .i64 t264)).setCell ⟨gb272, 1, none⟩ (.int .i64 t265)).setCell ⟨gb272, 2, none⟩ (.int .i64 500000)).setCell ⟨gb272, 3, none⟩ (.bool false)) w.heap.size (fun k_ => k_ ≠ gb272) v262 t261) := ⟨by (with_reducible repeat (first | apply Kd.R_alloc | apply Kd.R_drewN | apply Kd.R_drew)); exact Kd.R_mono (Kd.R_far (p := ⟨gb272, 3, none⟩) (Kd.R_far (p := ⟨gb272, 2, none⟩) (Kd.R_far (p := ⟨gb272, 1, none⟩) (Kd.R_far (p := ⟨gb272, 0, none⟩) (Kd.R_mono HO_8.out (fun k_ hk => (⟨hk, hk.2⟩ : _ ∧ k_ ≠ gb272))) (fun _ hk => hk.2) (.int .i64 t264)) (fun _ hk => hk.2) (.int .i64 t265)) (fun _ hk => hk.2) (.int .i64 500000)) (fun _ hk => hk.2) (.bool false)) (fun _ hk => hk.1.2)⟩
                  have n1_ : Aside0 (((((w33.setCell ⟨gb272, 0, none⟩ (.int .i64 t264)).setCell ⟨gb272, 1, none⟩ (.int .i64 t265)).setCell ⟨gb272, 2, none⟩ (.int .i64 500000)).setCell ⟨gb272, 3, none⟩ (.bool false)).heap[gb266]? = some (.cells #[.int .i64 t264, .int .i64 t265] 27 (0, 0))) := ⟨by (with_reducible repeat (first | refine blk_drewN ?_ _ | refine blk_drew ?_ | refine blk_alloc ?_ _)); refine blk_far ?_ NB266_272.out _; (with_reducible repeat (first | refine blk_drewN ?_ _ | refine blk_drew ?_ | refine blk_alloc ?_ _)); refine blk_far ?_ NB266_272.out _; (with_reducible repeat (first | refine blk_drewN ?_ _ | refine blk_drew ?_ | refine blk_alloc ?_ _)); refine blk_far ?_ NB266_272.out _; (with_reducible repeat (first | refine blk_drewN ?_ _ | refine blk_drew ?_ | refine blk_alloc ?_ _)); refine blk_far ?_ NB266_272.out _; (with_reducible repeat (first | refine blk_drewN ?_ _ | refine blk_drew ?_ | refine blk_alloc ?_ _)); exact BK266.out⟩
                  have n2_ : Aside0 (((((w33.setCell ⟨gb272, 0, none⟩ (.int .i64 t264)).setCell ⟨gb272, 1, none⟩ (.int .i64 t265)).setCell ⟨gb272, 2, none⟩ (.int .i64 500000)).setCell ⟨gb272, 3, none⟩ (.bool false)).heap[gb269]? = some (.cells #[.int .i64 t267, .int .i64 t268] 27 (0, 0))) := ⟨by (with_reducible repeat (first | refine blk_drewN ?_ _ | refine blk_drew ?_ | refine blk_alloc ?_ _)); refine blk_far ?_ NB269_272.out _; (with_reducible repeat (first | refine blk_drewN ?_ _ | refine blk_drew ?_ | refine blk_alloc ?_ _)); refine blk_far ?_ NB269_272.out _; (with_reducible repeat (first | refine blk_drewN ?_ _ | refine blk_drew ?_ | refine blk_alloc ?_ _)); refine blk_far ?_ NB269_272.out _; (with_reducible repeat (first | refine blk_drewN ?_ _ | refine blk_drew ?_ | refine blk_alloc ?_ _)); refine blk_far ?_ NB269_272.out _; (with_reducible repeat (first | refine blk_drewN ?_ _ | refine blk_drew ?_ | refine blk_alloc ?_ _)); exact BK269.out⟩
                  have n3_ : Aside0 (((((w33.setCell ⟨gb272, 0, none⟩ (.int .i64 t264)).setCell ⟨gb272, 1, none⟩ (.int .i64 t265)).setCell ⟨gb272, 2, none⟩ (.int .i64 500000)).setCell ⟨gb272, 3, none⟩ (.bool false)).heap[gb272]? = some (.cells #[.int .i64 t264, .int .i64 t265, .int .i64 500000, .bool false] 36 (0, 0))) := ⟨by (with_reducible repeat (first | refine blk_drewN ?_ _ | refine blk_drew ?_ | refine blk_alloc ?_ _)); refine blk_put (cs := #[.int .i64 t264, .int .i64 t265, .int .i64 500000, .bool false]) ?_ 3 _ rfl; (with_reducible repeat (first | refine blk_drewN ?_ _ | refine blk_drew ?_ | refine blk_alloc ?_ _)); refine blk_put (cs := #[.int .i64 t264, .int .i64 t265, .int .i64 0, .bool false]) ?_ 2 _ rfl; (with_reducible repeat (first | refine blk_drewN ?_ _ | refine blk_drew ?_ | refine blk_alloc ?_ _)); refine blk_put (cs := #[.int .i64 t264, .int .i64 0, .int .i64 0, .bool false]) ?_ 1 _ rfl; (with_reducible repeat (first | refine blk_drewN ?_ _ | refine blk_drew ?_ | refine blk_alloc ?_ _)); refine blk_put (cs := #[.int .i64 0, .int .i64 0, .int .i64 0, .bool false]) ?_ 0 _ rfl; (with_reducible repeat (first | refine blk_drewN ?_ _ | refine blk_drew ?_ | refine blk_alloc ?_ _)); exact BK272.out⟩
                  have n4_ : Aside0 (Below w.heap.size w ((((w33.setCell ⟨gb272, 0, none⟩ (.int .i64 t264)).setCell ⟨gb272, 1, none⟩ (.int .i64 t265)).setCell ⟨gb272, 2, none⟩ (.int .i64 500000)).setCell ⟨gb272, 3, none⟩ (.bool false))) := ⟨by repeat (first | (with_reducible first | exact HB.out | apply below_alloc | apply pw_below_drewN | apply below_drew1 | refine below_set ?_ GE266.out | refine below_set ?_ GE269.out | refine below_set ?_ GE272.out) | exact HB.out)⟩
                  (try clear HO_8)
                  (try clear BK266)
                  (try clear BK269)
                  (try clear BK272)
                  (try clear HB)
                  generalize ((((w33.setCell ⟨gb272, 0, none⟩ (.int .i64 t264)).setCell ⟨gb272, 1, none⟩ (.int .i64 t265)).setCell ⟨gb272, 2, none⟩ (.int .i64 500000)).setCell ⟨gb272, 3, none⟩ (.bool false)) = w50 at n0_ n1_ n2_ n3_ n4_ ⊢
                  have HO_8 := n0_
                  have BK266 := n1_
                  have BK269 := n2_
                  have BK272 := n3_
                  have HB := n4_
                  clear n0_ n1_ n2_ n3_ n4_
                  have n0_ := Aside0.mk (Kd.R_drew HO_8.out)
                  have n1_ := Aside0.mk (blk_drew BK266.out)
                  have n2_ := Aside0.mk (blk_drew BK269.out)
                  have n3_ := Aside0.mk (blk_drew BK272.out)
                  have n4_ := Aside0.mk (below_drew1 HB.out)
                  clear HO_8
                  clear BK266
                  clear BK269
                  clear BK272
                  clear HB
                  have HO_8 := n0_
                  have BK266 := n1_
                  have BK269 := n2_
                  have BK272 := n3_
                  have HB := n4_
                  clear n0_ n1_ n2_ n3_ n4_
                  obtain ⟨Ao52, co52, eo52⟩ := Kd.R_slice HO_8.out
                  (first | subst eo52 | (injection eo52 with f1_ f2_ f3_; have f4_ := f1_.symm; have f5_ := f3_.symm; clear f1_ f2_ f3_; subst f4_; subst f5_))
                  have p273 : 0 ≤ ((ji38) : Int) := of_decide_eq_true (by first | (with_reducible assumption) | assumption)
                  have q273 : (ji38) < (t261.length : Int) := of_decide_eq_true (by first | (with_reducible assumption) | assumption)
                  obtain ⟨ad273, e273, hx273_0, hx273_1, hx273_2, hx273_3⟩ := at_T36 (Kd.R_reads' HO_8.out).2.2 (ji38) p273 q273
                  (try rw [← Nbq45.out] at hx273_3)
                  cases e273
                  replace p273 := eq_true p273
                  replace q273 := eq_true q273
                  have p274 : 0 ≤ ((ji38) : Int) := of_decide_eq_true (by first | (with_reducible assumption) | assumption)
                  have q274 : (ji38) < (t261.length : Int) := of_decide_eq_true (by first | (with_reducible assumption) | assumption)
                  obtain ⟨ad274, e274, hx274_0, hx274_1, hx274_2, hx274_3⟩ := at_T36 (Kd.R_reads' HO_8.out).2.2 (ji38) p274 q274
                  (try rw [← Nbq45.out] at hx274_3)
                  obtain rfl : ad273 = ad274 := (by injection e274)
                  replace p274 := eq_true p274
                  replace q274 := eq_true q274
                  refine start_ (n := 16) (S := fun w' => w'.cell? ⟨gb266, 0, none⟩ = some (.int .i64 t264) ∧ w'.cell? ⟨gb266, 1, none⟩ = some (.int .i64 t265) ∧ w'.cell? (ad273.add (((ji38)).toNat * 4)) = some (.int .i64 ((rd_T36 t261 (ji38)).f0.f0)) ∧ w'.cell? ⟨(ad273.add (((ji38)).toNat * 4)).block, (ad273.add (((ji38)).toNat * 4)).off + 1, none⟩ = some (.int .i64 ((rd_T36 t261 (ji38)).f0.f1)) ∧ w'.cell? ⟨(ad273.add (((ji38)).toNat * 4)).block, (ad273.add (((ji38)).toNat * 4)).off + 2, none⟩ = some (.int .i64 ((rd_T36 t261 (ji38)).f1)) ∧ w'.cell? ⟨(ad273.add (((ji38)).toNat * 4)).block, (ad273.add (((ji38)).toNat * 4)).off + 3, none⟩ = some (.bool false) ∧ w'.cell? (ad273.add (((ji38)).toNat * 4)) = some (.int .i64 ((rd_T36 t261 (ji38)).f0.f0)) ∧ w'.cell? ⟨(ad273.add (((ji38)).toNat * 4)).block, (ad273.add (((ji38)).toNat * 4)).off + 1, none⟩ = some (.int .i64 ((rd_T36 t261 (ji38)).f0.f1)) ∧ w'.cell? ⟨(ad273.add (((ji38)).toNat * 4)).block, (ad273.add (((ji38)).toNat * 4)).off + 2, none⟩ = some (.int .i64 ((rd_T36 t261 (ji38)).f1)) ∧ w'.cell? ⟨(ad273.add (((ji38)).toNat * 4)).block, (ad273.add (((ji38)).toNat * 4)).off + 3, none⟩ = some (.bool false)) (ds := []) #[false, false, false, false, false, false, false, false, false, false, false, false, false, false, false, false] (by kernel_rfl) rfl rfl ⟨(blk_cell BK266.out 0).trans rfl, (blk_cell BK266.out 1).trans rfl, hx273_0, hx273_1, hx273_2, hx273_3, hx274_0, hx274_1, hx274_2, hx274_3⟩ (fun hHeld => ?_); refine with_tabW partitalaw11_TempoSplit.tab10 partitalaw11_TempoSplit.bits10 (fun HT_ HW_ => ?_)
                  generalize w50.drew = w51 at HO_8 BK266 BK269 BK272 HB hx273_0 hx273_1 hx273_2 hx273_3 hx274_0 hx274_1 hx274_2 hx274_3 hHeld ⊢
                  refine pure_ (i := 0) (N := some 51) (v := ?_) (a' := ?_) #[true, false, false, false, false, false, false, false, false, false, false, false, false, false, false, false] rfl rfl (any_of HT_.out (by kernel_rfl)) (fun _ _ _ h => h) (Or.inl ⟨by rfl, ?_⟩) ?_ ?_
                  rotate_left
                  · intro w'
                    go_simp
                    with_reducible rfl
                  rotate_left
                  · simp only [Act.put, List.setIfInBounds_toArray, List.set_cons_zero, List.set_cons_succ, i64_w, i32_w]
                    rfl
                  refine pure_ (i := 1) (N := some 52) (v := ?_) (a' := ?_) #[true, true, false, false, false, false, false, false, false, false, false, false, false, false, false, false] rfl rfl (any_of HT_.out (by kernel_rfl)) (fun _ _ _ h => h) (Or.inl ⟨by rfl, ?_⟩) ?_ ?_
                  rotate_left
                  · intro w'
                    go_simp
                    with_reducible rfl
                  rotate_left
                  · simp only [Act.put, List.setIfInBounds_toArray, List.set_cons_zero, List.set_cons_succ, i64_w, i32_w]
                    rfl
                  refine pure_ (i := 2) (N := some 53) (v := ?_) (a' := ?_) #[true, true, true, false, false, false, false, false, false, false, false, false, false, false, false, false] rfl rfl (any_of HT_.out (by kernel_rfl)) (fun _ _ _ h => h) (Or.inl ⟨by rfl, ?_⟩) ?_ ?_
                  rotate_left
                  · intro w'
                    go_simp
                    with_reducible rfl
                  rotate_left
                  · simp only [Act.put, List.setIfInBounds_toArray, List.set_cons_zero, List.set_cons_succ, i64_w, i32_w]
                    rfl
                  refine pure_ (i := 3) (N := some 54) (v := ?_) (a' := ?_) #[true, true, true, true, false, false, false, false, false, false, false, false, false, false, false, false] rfl rfl (any_of HT_.out (by kernel_rfl)) (fun _ _ _ h => h) (Or.inl ⟨by rfl, ?_⟩) ?_ ?_
                  rotate_left
                  · intro w'
                    go_simp
                    with_reducible rfl
                  rotate_left
                  · simp only [Act.put, List.setIfInBounds_toArray, List.set_cons_zero, List.set_cons_succ, i64_w, i32_w]
                    rfl
                  refine pure_ (i := 4) (N := some 55) (v := ?_) (a' := ?_) #[true, true, true, true, true, false, false, false, false, false, false, false, false, false, false, false] rfl rfl (any_of HT_.out (by kernel_rfl)) (fun _ _ _ h => h) (Or.inl ⟨by rfl, ?_⟩) ?_ ?_
                  rotate_left
                  · intro w'
                    go_simp
                    with_reducible rfl
                  rotate_left
                  · simp only [Act.put, List.setIfInBounds_toArray, List.set_cons_zero, List.set_cons_succ, i64_w, i32_w]
                    rfl
                  refine take_ (i := 5) (N := some 56) (v := ?_) (a' := ?_) #[true, true, true, true, true, true, false, false, false, false, false, false, false, false, false, false] rfl rfl (take_ofW HT_.out HW_.out (by kernel_rfl)) (fun _ _ _ h => h) (Or.inl ⟨by rfl, ?_⟩) hHeld ?_ ?_
                  rotate_left
                  · rintro w' ⟨s0, s1, s2, s3, s4, s5, s6, s7, s8, s9⟩
                    go_simp
                    with_reducible rfl
                  rotate_left
                  · simp only [Act.put, List.setIfInBounds_toArray, List.set_cons_zero, List.set_cons_succ, i64_w, i32_w]
                    rfl
                  refine take_ (i := 6) (N := some 57) (v := ?_) (a' := ?_) #[true, true, true, true, true, true, true, false, false, false, false, false, false, false, false, false] rfl rfl (take_ofW HT_.out HW_.out (by kernel_rfl)) (fun _ _ _ h => h) (Or.inl ⟨by rfl, ?_⟩) hHeld ?_ ?_
                  rotate_left
                  · rintro w' ⟨s0, s1, s2, s3, s4, s5, s6, s7, s8, s9⟩
                    go_simp
                    with_reducible rfl
                  rotate_left
                  · simp only [Act.put, List.setIfInBounds_toArray, List.set_cons_zero, List.set_cons_succ, i64_w, i32_w]
                    rfl
                  refine pure_ (i := 7) (N := some 58) (v := ?_) (a' := ?_) #[true, true, true, true, true, true, true, true, false, false, false, false, false, false, false, false] rfl rfl (any_of HT_.out (by kernel_rfl)) (fun _ _ _ h => h) (Or.inl ⟨by rfl, ?_⟩) ?_ ?_
                  rotate_left
                  · intro w'
                    go_simp
                    with_reducible rfl
                  rotate_left
                  · simp only [Act.put, List.setIfInBounds_toArray, List.set_cons_zero, List.set_cons_succ, i64_w, i32_w]
                    rfl
                  refine pure_ (i := 8) (N := some 59) (v := ?_) (a' := ?_) #[true, true, true, true, true, true, true, true, true, false, false, false, false, false, false, false] rfl rfl (any_of HT_.out (by kernel_rfl)) (fun _ _ _ h => h) (Or.inl ⟨by rfl, ?_⟩) ?_ ?_
                  rotate_left
                  · intro w'
                    go_simp
                    with_reducible rfl
                  rotate_left
                  · simp only [Act.put, List.setIfInBounds_toArray, List.set_cons_zero, List.set_cons_succ, i64_w, i32_w]
                    rfl
                  refine pure_ (i := 9) (N := some 60) (v := ?_) (a' := ?_) #[true, true, true, true, true, true, true, true, true, true, false, false, false, false, false, false] rfl rfl (any_of HT_.out (by kernel_rfl)) (fun _ _ _ h => h) (Or.inl ⟨by rfl, ?_⟩) ?_ ?_
                  rotate_left
                  · intro w'
                    go_simp
                    with_reducible rfl
                  rotate_left
                  · simp only [Act.put, List.setIfInBounds_toArray, List.set_cons_zero, List.set_cons_succ, i64_w, i32_w]
                    rfl
                  refine pure_ (i := 10) (N := some 61) (v := ?_) (a' := ?_) #[true, true, true, true, true, true, true, true, true, true, true, false, false, false, false, false] rfl rfl (any_of HT_.out (by kernel_rfl)) (fun _ _ _ h => h) (Or.inl ⟨by rfl, ?_⟩) ?_ ?_
                  rotate_left
                  · intro w'
                    go_simp
                    with_reducible rfl
                  rotate_left
                  · simp only [Act.put, List.setIfInBounds_toArray, List.set_cons_zero, List.set_cons_succ, i64_w, i32_w]
                    rfl
                  refine pure_ (i := 11) (N := some 62) (v := ?_) (a' := ?_) #[true, true, true, true, true, true, true, true, true, true, true, true, false, false, false, false] rfl rfl (any_of HT_.out (by kernel_rfl)) (fun _ _ _ h => h) (Or.inl ⟨by rfl, ?_⟩) ?_ ?_
                  rotate_left
                  · intro w'
                    go_simp
                    with_reducible rfl
                  rotate_left
                  · simp only [Act.put, List.setIfInBounds_toArray, List.set_cons_zero, List.set_cons_succ, i64_w, i32_w]
                    rfl
                  refine pure_ (i := 12) (N := some 63) (v := ?_) (a' := ?_) #[true, true, true, true, true, true, true, true, true, true, true, true, true, false, false, false] rfl rfl (any_of HT_.out (by kernel_rfl)) (fun _ _ _ h => h) (Or.inl ⟨by rfl, ?_⟩) ?_ ?_
                  rotate_left
                  · intro w'
                    go_simp
                    with_reducible rfl
                  rotate_left
                  · simp only [Act.put, List.setIfInBounds_toArray, List.set_cons_zero, List.set_cons_succ, i64_w, i32_w]
                    rfl
                  refine pure_ (i := 13) (N := some 64) (v := ?_) (a' := ?_) #[true, true, true, true, true, true, true, true, true, true, true, true, true, true, false, false] rfl rfl (any_of HT_.out (by kernel_rfl)) (fun _ _ _ h => h) (Or.inl ⟨by rfl, ?_⟩) ?_ ?_
                  rotate_left
                  · intro w'
                    go_simp
                    with_reducible rfl
                  rotate_left
                  · simp only [Act.put, List.setIfInBounds_toArray, List.set_cons_zero, List.set_cons_succ, i64_w, i32_w]
                    rfl
                  refine take_ (i := 14) (N := some 65) (v := ?_) (a' := ?_) #[true, true, true, true, true, true, true, true, true, true, true, true, true, true, true, false] rfl rfl (take_ofW HT_.out HW_.out (by kernel_rfl)) (fun _ _ _ h => h) (Or.inl ⟨by rfl, ?_⟩) hHeld ?_ ?_
                  rotate_left
                  · rintro w' ⟨s0, s1, s2, s3, s4, s5, s6, s7, s8, s9⟩
                    go_simp
                    with_reducible rfl
                  rotate_left
                  · simp only [Act.put, List.setIfInBounds_toArray, List.set_cons_zero, List.set_cons_succ, i64_w, i32_w]
                    rfl
                  refine pure_ (i := 15) (N := some 66) (v := ?_) (a' := ?_) #[true, true, true, true, true, true, true, true, true, true, true, true, true, true, true, true] rfl rfl (any_of HT_.out (by kernel_rfl)) (fun _ _ _ h => h) (Or.inl ⟨by rfl, ?_⟩) ?_ ?_
                  rotate_left
                  · intro w'
                    go_simp
                    with_reducible rfl
                  rotate_left
                  · simp only [Act.put, List.setIfInBounds_toArray, List.set_cons_zero, List.set_cons_succ, i64_w, i32_w]
                    rfl
                  refine done_ (done_of HT_.out (by kernel_rfl)) ?_
                  have p275 : 0 ≤ ((ji38) : Int) := of_decide_eq_true (by first | (with_reducible assumption) | assumption)
                  have q275 : (ji38) < (t261.length : Int) := of_decide_eq_true (by first | (with_reducible assumption) | assumption)
                  obtain ⟨ad275, e275, hx275_0, hx275_1, hx275_2, hx275_3⟩ := at_T36 (Kd.R_reads' HO_8.out).2.2 (ji38) p275 q275
                  (try rw [← Nbq45.out] at hx275_3)
                  obtain rfl : ad273 = ad275 := (by injection e275)
                  replace p275 := eq_true p275
                  replace q275 := eq_true q275
                  have hnb53 := NB272_266.out
                  have hnc53 := NB266_272.out
                  have hnb54 := NB272_269.out
                  have hnc54 := NB269_272.out
                  have hcz55_0 : w51.cell? ⟨gb272, 0, none⟩ = some (.int .i64 t264) := (blk_cell BK272.out 0).trans rfl
                  have hcz55_1 : w51.cell? ⟨gb272, 1, none⟩ = some (.int .i64 t265) := (blk_cell BK272.out 1).trans rfl
                  have hcz55_2 : w51.cell? ⟨gb272, 2, none⟩ = some (.int .i64 500000) := (blk_cell BK272.out 2).trans rfl
                  have hcz55_3 : w51.cell? ⟨gb272, 3, none⟩ = some (.bool false) := (blk_cell BK272.out 3).trans rfl
                  have hfz55_0 := blk_frozen BK272.out 0
                  have hfz55_1 := blk_frozen BK272.out 1
                  have hfz55_2 := blk_frozen BK272.out 2
                  have hfz55_3 := blk_frozen BK272.out 3
                  try go_wp2
                  go_meet
                  case rel => exact ⟨_, ((rd_T36 t261 (ji38)).f1), H', ⟨by have := HJ7.out; first | omega | exact Nat.le_refl _⟩, ⟨by (with_reducible repeat (first | apply Kd.R_alloc | apply Kd.R_drewN | apply Kd.R_drew)); exact Kd.R_mono (Kd.R_far (p := ⟨gb272, 2, none⟩) (Kd.R_mono HO_8.out (fun k_ hk => (⟨hk, hk⟩ : _ ∧ k_ ≠ gb272))) (fun _ hk => hk.2) (.int .i64 ((rd_T36 t261 (ji38)).f1))) (fun _ hk => hk.1)⟩, ⟨by (with_reducible repeat (first | refine blk_drewN ?_ _ | refine blk_drew ?_ | refine blk_alloc ?_ _)); refine blk_far ?_ NB266_272.out _; (with_reducible repeat (first | refine blk_drewN ?_ _ | refine blk_drew ?_ | refine blk_alloc ?_ _)); exact BK266.out⟩, ⟨by (with_reducible repeat (first | refine blk_drewN ?_ _ | refine blk_drew ?_ | refine blk_alloc ?_ _)); refine blk_far ?_ NB269_272.out _; (with_reducible repeat (first | refine blk_drewN ?_ _ | refine blk_drew ?_ | refine blk_alloc ?_ _)); exact BK269.out⟩, ⟨by (with_reducible repeat (first | refine blk_drewN ?_ _ | refine blk_drew ?_ | refine blk_alloc ?_ _)); refine blk_put (cs := #[.int .i64 t264, .int .i64 t265, .int .i64 500000, .bool false]) ?_ 2 _ rfl; (with_reducible repeat (first | refine blk_drewN ?_ _ | refine blk_drew ?_ | refine blk_alloc ?_ _)); exact BK272.out⟩, ⟨by repeat (first | (with_reducible first | exact HB.out | apply below_alloc | apply pw_below_drewN | apply below_drew1 | refine below_set ?_ GE266.out | refine below_set ?_ GE269.out | refine below_set ?_ GE272.out) | exact HB.out)⟩⟩
            · rw [if_neg c40] at H
              exact absurd H (by simp)
          · rw [if_neg c39] at H
            exact absurd H (by simp)
        · rw [if_neg c37] at H
          have c37b0 : decide (0 < x11_7) = false := decide_eq_false c37
          clear c37
          (first | rw [c37b0] | (simp only [i64_w, i32_w]; rw [c37b0]) | skip)
          have H' := Aside0.mk H
          clear H
          go_wp2
          go_meet
          case rel => exact ⟨_, (500000), H', ⟨by have := HJ7.out; first | omega | exact Nat.le_refl _⟩, ⟨by (with_reducible repeat (first | apply Kd.R_alloc | apply Kd.R_drewN | apply Kd.R_drew)); exact Kd.R_mono (Kd.R_far (p := ⟨gb272, 3, none⟩) (Kd.R_far (p := ⟨gb272, 2, none⟩) (Kd.R_far (p := ⟨gb272, 1, none⟩) (Kd.R_far (p := ⟨gb272, 0, none⟩) (Kd.R_mono HO_8.out (fun k_ hk => (⟨hk, hk.2⟩ : _ ∧ k_ ≠ gb272))) (fun _ hk => hk.2) (.int .i64 t264)) (fun _ hk => hk.2) (.int .i64 t265)) (fun _ hk => hk.2) (.int .i64 500000)) (fun _ hk => hk.2) (.bool false)) (fun _ hk => hk.1.2)⟩, ⟨by (with_reducible repeat (first | refine blk_drewN ?_ _ | refine blk_drew ?_ | refine blk_alloc ?_ _)); refine blk_far ?_ NB266_272.out _; (with_reducible repeat (first | refine blk_drewN ?_ _ | refine blk_drew ?_ | refine blk_alloc ?_ _)); refine blk_far ?_ NB266_272.out _; (with_reducible repeat (first | refine blk_drewN ?_ _ | refine blk_drew ?_ | refine blk_alloc ?_ _)); refine blk_far ?_ NB266_272.out _; (with_reducible repeat (first | refine blk_drewN ?_ _ | refine blk_drew ?_ | refine blk_alloc ?_ _)); refine blk_far ?_ NB266_272.out _; (with_reducible repeat (first | refine blk_drewN ?_ _ | refine blk_drew ?_ | refine blk_alloc ?_ _)); exact BK266.out⟩, ⟨by (with_reducible repeat (first | refine blk_drewN ?_ _ | refine blk_drew ?_ | refine blk_alloc ?_ _)); refine blk_far ?_ NB269_272.out _; (with_reducible repeat (first | refine blk_drewN ?_ _ | refine blk_drew ?_ | refine blk_alloc ?_ _)); refine blk_far ?_ NB269_272.out _; (with_reducible repeat (first | refine blk_drewN ?_ _ | refine blk_drew ?_ | refine blk_alloc ?_ _)); refine blk_far ?_ NB269_272.out _; (with_reducible repeat (first | refine blk_drewN ?_ _ | refine blk_drew ?_ | refine blk_alloc ?_ _)); refine blk_far ?_ NB269_272.out _; (with_reducible repeat (first | refine blk_drewN ?_ _ | refine blk_drew ?_ | refine blk_alloc ?_ _)); exact BK269.out⟩, ⟨by (with_reducible repeat (first | refine blk_drewN ?_ _ | refine blk_drew ?_ | refine blk_alloc ?_ _)); refine blk_put (cs := #[.int .i64 t264, .int .i64 t265, .int .i64 500000, .bool false]) ?_ 3 _ rfl; (with_reducible repeat (first | refine blk_drewN ?_ _ | refine blk_drew ?_ | refine blk_alloc ?_ _)); refine blk_put (cs := #[.int .i64 t264, .int .i64 t265, .int .i64 0, .bool false]) ?_ 2 _ rfl; (with_reducible repeat (first | refine blk_drewN ?_ _ | refine blk_drew ?_ | refine blk_alloc ?_ _)); refine blk_put (cs := #[.int .i64 t264, .int .i64 0, .int .i64 0, .bool false]) ?_ 1 _ rfl; (with_reducible repeat (first | refine blk_drewN ?_ _ | refine blk_drew ?_ | refine blk_alloc ?_ _)); refine blk_put (cs := #[.int .i64 0, .int .i64 0, .int .i64 0, .bool false]) ?_ 0 _ rfl; (with_reducible repeat (first | refine blk_drewN ?_ _ | refine blk_drew ?_ | refine blk_alloc ?_ _)); exact BK272.out⟩, ⟨by repeat (first | (with_reducible first | exact HB.out | apply below_alloc | apply pw_below_drewN | apply below_drew1 | refine below_set ?_ GE266.out | refine below_set ?_ GE269.out | refine below_set ?_ GE272.out) | exact HB.out)⟩⟩
      case rest =>
        clear HC30
        try clear p2
        try clear q2
        try clear hx2
        try clear c3
        try clear c4
        try clear q4
        try clear c5
        try clear p6
        try clear p27
        try clear q27
        try clear hx27
        try clear c37
        try clear c37b0
        try clear c39
        try clear c39b0
        try clear c40
        try clear c40b0
        try clear c41
        try clear c41b0
        try clear c41b1
        try clear c41b2
        try clear q45
        try clear c46
        try clear c53
        try clear c54
        try clear hcz55_0
        try clear hcz55_1
        try clear hcz55_2
        try clear hcz55_3
        try clear hfz55_0
        try clear hfz55_1
        try clear hfz55_2
        try clear hfz55_3
        try clear hx273_0
        try clear hx273_1
        try clear hx273_2
        try clear hx273_3
        try clear hx274_0
        try clear hx274_1
        try clear hx274_2
        try clear hx274_3
        try clear hx275_0
        try clear hx275_1
        try clear hx275_2
        try clear hx275_3
        try clear p273
        try clear p274
        try clear p275
        try clear q273
        try clear q274
        try clear q275
        obtain ⟨kq, x273002_29, HA, HJ29, HO_8, BK266, BK269, BK272, HB⟩ := hcut
        cases kq with
        | zero => exact absurd HA.out (by simp [partitalaw11_TempoSplit.j2])
        | succ kj29 =>
          have H := HA.out
          clear HA
          simp only [partitalaw11_TempoSplit.j2] at H
          by_cases c56 : 0 ≤ x11_7
          · rw [if_pos c56] at H
            have c56b0 := eq_true c56
            have c56b1 : decide (0 ≤ x11_7) = true := decide_eq_true c56
            clear c56
            by_cases c57 : x11_7 ≤ (t261.length : Int)
            · rw [if_pos c57] at H
              have c57b0 := eq_true c57
              have c57b1 : decide (x11_7 ≤ (t261.length : Int)) = true := decide_eq_true c57
              clear c57
              obtain ⟨y276, hy276⟩ : ∃ y_ : List (S36), y_ = (t261.take (x11_7 : Int).toNat) := ⟨_, rfl⟩
              replace H : (if ([] : List (S36)).length + y276.length < 4398046511104 then ((some (([] : List (S36)) ++ y276 : List (S36))).bind fun y280 => ((some (([(⟨(⟨t264, t265⟩ : S27), x273002_29, false⟩ : S36)] : List (S36)) : List (S36))).bind fun y283 => (if y280.length + y283.length < 4398046511104 then ((some (y280 ++ y283 : List (S36))).bind fun y286 => ((some (t261.drop (x11_7 : Int).toNat : List (S36))).bind fun y289 => (if y286.length + y289.length < 4398046511104 then ((some (y286 ++ y289 : List (S36))).bind fun y293 => ((tempo_Check.f kj29 y293).bind fun bt296 => ((tempo_Rate.f kj29 t261 t267 t268).bind fun bt298 => ((tempo_Rate.f kj29 y293 t267 t268).bind fun bt300 => ((tempo_Micros.f kj29 t261 t267 t268).bind fun bt302 => ((tempo_Micros.f kj29 y293 t267 t268).bind fun bt304 => (if t260 = true then (if bt296.2 = 0 then (if bt298.2 = 0 then (if bt300.2 = 0 then (if bt302.2 = 0 then (if bt304.2 = 0 then (if bt298.1 = bt300.1 then (if bt302.1 = bt304.1 then (some true) else (some (bt302.1 == (wrap64 (bt304.1 + 1))))) else none) else none) else none) else none) else none) else none) else none))))))) else (none)))) else (none)))) else (none)) = some r := by first | (rw [hy276]; with_reducible exact H) | (have H2_ := (Option.bind_some _ _).symm.trans H; rw [hy276]; with_reducible exact H2_) | (have H2_ := (Option.bind_some _ _).symm.trans H; with_reducible exact H2_) | with_reducible exact H | (rw [hy276]; exact H) | exact H
              have Ny276 := Aside0.mk hy276
              clear hy276
              by_cases c58 : ([] : List (S36)).length + y276.length < 4398046511104
              · rw [if_pos c58] at H
                have LMc58 := Aside0.mk c58
                clear c58
                obtain ⟨y280, hy280⟩ : ∃ y_ : List (S36), y_ = (([] : List (S36)) ++ y276) := ⟨_, rfl⟩
                replace H : ((some (([(⟨(⟨t264, t265⟩ : S27), x273002_29, false⟩ : S36)] : List (S36)) : List (S36))).bind fun y283 => (if y280.length + y283.length < 4398046511104 then ((some (y280 ++ y283 : List (S36))).bind fun y286 => ((some (t261.drop (x11_7 : Int).toNat : List (S36))).bind fun y289 => (if y286.length + y289.length < 4398046511104 then ((some (y286 ++ y289 : List (S36))).bind fun y293 => ((tempo_Check.f kj29 y293).bind fun bt296 => ((tempo_Rate.f kj29 t261 t267 t268).bind fun bt298 => ((tempo_Rate.f kj29 y293 t267 t268).bind fun bt300 => ((tempo_Micros.f kj29 t261 t267 t268).bind fun bt302 => ((tempo_Micros.f kj29 y293 t267 t268).bind fun bt304 => (if t260 = true then (if bt296.2 = 0 then (if bt298.2 = 0 then (if bt300.2 = 0 then (if bt302.2 = 0 then (if bt304.2 = 0 then (if bt298.1 = bt300.1 then (if bt302.1 = bt304.1 then (some true) else (some (bt302.1 == (wrap64 (bt304.1 + 1))))) else none) else none) else none) else none) else none) else none) else none))))))) else (none)))) else (none))) = some r := by first | (rw [hy280]; with_reducible exact H) | (have H2_ := (Option.bind_some _ _).symm.trans H; rw [hy280]; with_reducible exact H2_) | (have H2_ := (Option.bind_some _ _).symm.trans H; with_reducible exact H2_) | with_reducible exact H | (rw [hy280]; exact H) | exact H
                have Ny280 := Aside0.mk hy280
                clear hy280
                obtain ⟨y283, hy283⟩ : ∃ y_ : List (S36), y_ = (([(⟨(⟨t264, t265⟩ : S27), x273002_29, false⟩ : S36)] : List (S36))) := ⟨_, rfl⟩
                replace H : (if y280.length + y283.length < 4398046511104 then ((some (y280 ++ y283 : List (S36))).bind fun y286 => ((some (t261.drop (x11_7 : Int).toNat : List (S36))).bind fun y289 => (if y286.length + y289.length < 4398046511104 then ((some (y286 ++ y289 : List (S36))).bind fun y293 => ((tempo_Check.f kj29 y293).bind fun bt296 => ((tempo_Rate.f kj29 t261 t267 t268).bind fun bt298 => ((tempo_Rate.f kj29 y293 t267 t268).bind fun bt300 => ((tempo_Micros.f kj29 t261 t267 t268).bind fun bt302 => ((tempo_Micros.f kj29 y293 t267 t268).bind fun bt304 => (if t260 = true then (if bt296.2 = 0 then (if bt298.2 = 0 then (if bt300.2 = 0 then (if bt302.2 = 0 then (if bt304.2 = 0 then (if bt298.1 = bt300.1 then (if bt302.1 = bt304.1 then (some true) else (some (bt302.1 == (wrap64 (bt304.1 + 1))))) else none) else none) else none) else none) else none) else none) else none))))))) else (none)))) else (none)) = some r := by first | (rw [hy283]; with_reducible exact H) | (have H2_ := (Option.bind_some _ _).symm.trans H; rw [hy283]; with_reducible exact H2_) | (have H2_ := (Option.bind_some _ _).symm.trans H; with_reducible exact H2_) | with_reducible exact H | (rw [hy283]; exact H) | exact H
                have Ny283 := Aside0.mk hy283
                clear hy283
                by_cases c59 : y280.length + y283.length < 4398046511104
                · rw [if_pos c59] at H
                  have LMc59 := Aside0.mk c59
                  clear c59
                  obtain ⟨y286, hy286⟩ : ∃ y_ : List (S36), y_ = (y280 ++ y283) := ⟨_, rfl⟩
                  replace H : ((some (t261.drop (x11_7 : Int).toNat : List (S36))).bind fun y289 => (if y286.length + y289.length < 4398046511104 then ((some (y286 ++ y289 : List (S36))).bind fun y293 => ((tempo_Check.f kj29 y293).bind fun bt296 => ((tempo_Rate.f kj29 t261 t267 t268).bind fun bt298 => ((tempo_Rate.f kj29 y293 t267 t268).bind fun bt300 => ((tempo_Micros.f kj29 t261 t267 t268).bind fun bt302 => ((tempo_Micros.f kj29 y293 t267 t268).bind fun bt304 => (if t260 = true then (if bt296.2 = 0 then (if bt298.2 = 0 then (if bt300.2 = 0 then (if bt302.2 = 0 then (if bt304.2 = 0 then (if bt298.1 = bt300.1 then (if bt302.1 = bt304.1 then (some true) else (some (bt302.1 == (wrap64 (bt304.1 + 1))))) else none) else none) else none) else none) else none) else none) else none))))))) else (none))) = some r := by first | (rw [hy286]; with_reducible exact H) | (have H2_ := (Option.bind_some _ _).symm.trans H; rw [hy286]; with_reducible exact H2_) | (have H2_ := (Option.bind_some _ _).symm.trans H; with_reducible exact H2_) | with_reducible exact H | (rw [hy286]; exact H) | exact H
                  have Ny286 := Aside0.mk hy286
                  clear hy286
                  have c60b0 := eq_true (of_decide_eq_true (by first | (with_reducible assumption) | assumption) : 0 ≤ x11_7)
                  have c61b0 := eq_true (of_decide_eq_true (by first | (with_reducible assumption) | assumption) : x11_7 ≤ (t261.length : Int))
                  obtain ⟨y289, hy289⟩ : ∃ y_ : List (S36), y_ = (t261.drop (x11_7 : Int).toNat) := ⟨_, rfl⟩
                  replace H : (if y286.length + y289.length < 4398046511104 then ((some (y286 ++ y289 : List (S36))).bind fun y293 => ((tempo_Check.f kj29 y293).bind fun bt296 => ((tempo_Rate.f kj29 t261 t267 t268).bind fun bt298 => ((tempo_Rate.f kj29 y293 t267 t268).bind fun bt300 => ((tempo_Micros.f kj29 t261 t267 t268).bind fun bt302 => ((tempo_Micros.f kj29 y293 t267 t268).bind fun bt304 => (if t260 = true then (if bt296.2 = 0 then (if bt298.2 = 0 then (if bt300.2 = 0 then (if bt302.2 = 0 then (if bt304.2 = 0 then (if bt298.1 = bt300.1 then (if bt302.1 = bt304.1 then (some true) else (some (bt302.1 == (wrap64 (bt304.1 + 1))))) else none) else none) else none) else none) else none) else none) else none))))))) else (none)) = some r := by first | (rw [hy289]; with_reducible exact H) | (have H2_ := (Option.bind_some _ _).symm.trans H; rw [hy289]; with_reducible exact H2_) | (have H2_ := (Option.bind_some _ _).symm.trans H; with_reducible exact H2_) | with_reducible exact H | (rw [hy289]; exact H) | exact H
                  have Ny289 := Aside0.mk hy289
                  clear hy289
                  by_cases c62 : y286.length + y289.length < 4398046511104
                  · rw [if_pos c62] at H
                    have LMc62 := Aside0.mk c62
                    clear c62
                    obtain ⟨y293, hy293⟩ : ∃ y_ : List (S36), y_ = (y286 ++ y289) := ⟨_, rfl⟩
                    replace H : ((tempo_Check.f kj29 y293).bind fun bt296 => ((tempo_Rate.f kj29 t261 t267 t268).bind fun bt298 => ((tempo_Rate.f kj29 y293 t267 t268).bind fun bt300 => ((tempo_Micros.f kj29 t261 t267 t268).bind fun bt302 => ((tempo_Micros.f kj29 y293 t267 t268).bind fun bt304 => (if t260 = true then (if bt296.2 = 0 then (if bt298.2 = 0 then (if bt300.2 = 0 then (if bt302.2 = 0 then (if bt304.2 = 0 then (if bt298.1 = bt300.1 then (if bt302.1 = bt304.1 then (some true) else (some (bt302.1 == (wrap64 (bt304.1 + 1))))) else none) else none) else none) else none) else none) else none) else none)))))) = some r := by first | (rw [hy293]; with_reducible exact H) | (have H2_ := (Option.bind_some _ _).symm.trans H; rw [hy293]; with_reducible exact H2_) | (have H2_ := (Option.bind_some _ _).symm.trans H; with_reducible exact H2_) | with_reducible exact H | (rw [hy293]; exact H) | exact H
                    have Ny293 := Aside0.mk hy293
                    clear hy293
                    replace H := Option.bind_eq_some_iff.mp H
                    obtain ⟨⟨t296, t297⟩, A630, H⟩ := H
                    replace H : ((tempo_Rate.f kj29 t261 t267 t268).bind fun bt298 => ((tempo_Rate.f kj29 y293 t267 t268).bind fun bt300 => ((tempo_Micros.f kj29 t261 t267 t268).bind fun bt302 => ((tempo_Micros.f kj29 y293 t267 t268).bind fun bt304 => (if t260 = true then (if t297 = 0 then (if bt298.2 = 0 then (if bt300.2 = 0 then (if bt302.2 = 0 then (if bt304.2 = 0 then (if bt298.1 = bt300.1 then (if bt302.1 = bt304.1 then (some true) else (some (bt302.1 == (wrap64 (bt304.1 + 1))))) else none) else none) else none) else none) else none) else none) else none))))) = some r := H
                    have A63 := Aside0.mk A630
                    clear A630
                    replace H := Option.bind_eq_some_iff.mp H
                    obtain ⟨⟨t298, t299⟩, A640, H⟩ := H
                    replace H : ((tempo_Rate.f kj29 y293 t267 t268).bind fun bt300 => ((tempo_Micros.f kj29 t261 t267 t268).bind fun bt302 => ((tempo_Micros.f kj29 y293 t267 t268).bind fun bt304 => (if t260 = true then (if t297 = 0 then (if t299 = 0 then (if bt300.2 = 0 then (if bt302.2 = 0 then (if bt304.2 = 0 then (if t298 = bt300.1 then (if bt302.1 = bt304.1 then (some true) else (some (bt302.1 == (wrap64 (bt304.1 + 1))))) else none) else none) else none) else none) else none) else none) else none)))) = some r := H
                    have A64 := Aside0.mk A640
                    clear A640
                    replace H := Option.bind_eq_some_iff.mp H
                    obtain ⟨⟨t300, t301⟩, A650, H⟩ := H
                    replace H : ((tempo_Micros.f kj29 t261 t267 t268).bind fun bt302 => ((tempo_Micros.f kj29 y293 t267 t268).bind fun bt304 => (if t260 = true then (if t297 = 0 then (if t299 = 0 then (if t301 = 0 then (if bt302.2 = 0 then (if bt304.2 = 0 then (if t298 = t300 then (if bt302.1 = bt304.1 then (some true) else (some (bt302.1 == (wrap64 (bt304.1 + 1))))) else none) else none) else none) else none) else none) else none) else none))) = some r := H
                    have A65 := Aside0.mk A650
                    clear A650
                    replace H := Option.bind_eq_some_iff.mp H
                    obtain ⟨⟨t302, t303⟩, A660, H⟩ := H
                    replace H : ((tempo_Micros.f kj29 y293 t267 t268).bind fun bt304 => (if t260 = true then (if t297 = 0 then (if t299 = 0 then (if t301 = 0 then (if t303 = 0 then (if bt304.2 = 0 then (if t298 = t300 then (if t302 = bt304.1 then (some true) else (some (t302 == (wrap64 (bt304.1 + 1))))) else none) else none) else none) else none) else none) else none) else none)) = some r := H
                    have A66 := Aside0.mk A660
                    clear A660
                    replace H := Option.bind_eq_some_iff.mp H
                    obtain ⟨⟨t304, t305⟩, A670, H⟩ := H
                    replace H : (if t260 = true then (if t297 = 0 then (if t299 = 0 then (if t301 = 0 then (if t303 = 0 then (if t305 = 0 then (if t298 = t300 then (if t302 = t304 then (some true) else (some (t302 == (wrap64 (t304 + 1))))) else none) else none) else none) else none) else none) else none) else none) = some r := H
                    have A67 := Aside0.mk A670
                    clear A670
                    by_cases c68 : t260 = true
                    · subst c68
                      have H1 : (if t297 = 0 then (if t299 = 0 then (if t301 = 0 then (if t303 = 0 then (if t305 = 0 then (if t298 = t300 then (if t302 = t304 then (some true) else (some (t302 == (wrap64 (t304 + 1))))) else none) else none) else none) else none) else none) else none) = some r := by rw [if_pos rfl] at H; exact H
                      clear H
                      have H := H1
                      clear H1
                      by_cases c69 : t297 = 0
                      · rw [if_pos c69] at H
                        have c69b0 : (t297 == 0) = true := beq_iff_eq.mpr c69
                        have c69b1 : (t297 != 0) = false := bne_eq_false_iff_eq.mpr c69
                        clear c69
                        by_cases c70 : t299 = 0
                        · rw [if_pos c70] at H
                          have c70b0 : (t299 == 0) = true := beq_iff_eq.mpr c70
                          have c70b1 : (t299 != 0) = false := bne_eq_false_iff_eq.mpr c70
                          clear c70
                          by_cases c71 : t301 = 0
                          · rw [if_pos c71] at H
                            have c71b0 : (t301 == 0) = true := beq_iff_eq.mpr c71
                            have c71b1 : (t301 != 0) = false := bne_eq_false_iff_eq.mpr c71
                            clear c71
                            by_cases c72 : t303 = 0
                            · rw [if_pos c72] at H
                              have c72b0 : (t303 == 0) = true := beq_iff_eq.mpr c72
                              have c72b1 : (t303 != 0) = false := bne_eq_false_iff_eq.mpr c72
                              clear c72
                              by_cases c73 : t305 = 0
                              · rw [if_pos c73] at H
                                have c73b0 : (t305 == 0) = true := beq_iff_eq.mpr c73
                                have c73b1 : (t305 != 0) = false := bne_eq_false_iff_eq.mpr c73
                                clear c73
                                by_cases c74 : t298 = t300
                                · rw [if_pos c74] at H
                                  have c74b0 : (t298 == t300) = true := beq_iff_eq.mpr c74
                                  have c74b1 : (t298 != t300) = false := bne_eq_false_iff_eq.mpr c74
                                  clear c74
                                  by_cases c75 : t302 = t304
                                  · rw [if_pos c75] at H
                                    have c75b0 : (t302 == t304) = true := beq_iff_eq.mpr c75
                                    have c75b1 : (t302 != t304) = false := bne_eq_false_iff_eq.mpr c75
                                    clear c75
                                    obtain rfl := Option.some.inj H
                                    try go_wp2
                                    have n0_ := Aside0.mk (Kd.R_drew HO_8.out)
                                    have n1_ := Aside0.mk (blk_drew BK266.out)
                                    have n2_ := Aside0.mk (blk_drew BK269.out)
                                    have n3_ := Aside0.mk (blk_drew BK272.out)
                                    have n4_ := Aside0.mk (below_drew1 HB.out)
                                    clear HO_8
                                    clear BK266
                                    clear BK269
                                    clear BK272
                                    clear HB
                                    have HO_8 := n0_
                                    have BK266 := n1_
                                    have BK269 := n2_
                                    have BK272 := n3_
                                    have HB := n4_
                                    clear n0_ n1_ n2_ n3_ n4_
                                    obtain ⟨Ao78, co78, eo78⟩ := Kd.R_slice HO_8.out
                                    (first | subst eo78 | (injection eo78 with f1_ f2_ f3_; have f4_ := f1_.symm; have f5_ := f3_.symm; clear f1_ f2_ f3_; subst f4_; subst f5_))
                                    have q77 : (x11_7 : Int) ≤ ((t261.length : Int) : Int) := of_decide_eq_true (by first | (with_reducible assumption) | assumption)
                                    obtain ⟨i077, hi077, _, hsz77, _⟩ := info_parts info36
                                    have hroom77 : t261.length ≤ co78 := (Kd.R_reads' HO_8.out).2.1
                                    have hC77 : Kd.C k36 _ Ao78 t261.length t261 := (Kd.R_reads' HO_8.out).2.2
                                    have hcut77 := cut_to (P := Try.prog) 22 36 .i64 Try.underlying22 hi077 Ao78 t261.length co78 x11_7 (of_decide_eq_true (by first | (with_reducible assumption) | assumption)) q77 hroom77
                                    have hr77 := Kd.C_take (m := (x11_7 : Int).toNat) hC77 (by omega)
                                    have hy77 : y276.length = (x11_7 : Int).toNat := (by rw [Ny276.out, List.length_take]; omega)
                                    rw [← Ny276.out] at hr77
                                    rw [← hy77] at hcut77
                                    have HR279 := Aside0.mk hr77
                                    have HC279 := Aside0.mk (show y276.length ≤ co78 from by omega)
                                    clear hr77 hC77 hroom77 hi077 hsz77
                                    have KY77 := Aside0.mk hy77
                                    clear hy77
                                    have KL77 := Aside0.mk (show (x11_7 : Int).toNat ≤ t261.length from by omega)
                                    replace q77 := eq_true q77
                                    have q79 : (x11_7 : Int) ≤ ((t261.length : Int) : Int) := of_decide_eq_true (by first | (with_reducible assumption) | assumption)
                                    obtain ⟨i079, hi079, _, hsz79, _⟩ := info_parts info36
                                    have hroom79 : t261.length ≤ co78 := (Kd.R_reads' HO_8.out).2.1
                                    have hC79 : Kd.C k36 _ Ao78 t261.length t261 := (Kd.R_reads' HO_8.out).2.2
                                    have q079 : (0 : Int) ≤ (x11_7 : Int) := of_decide_eq_true (by first | (with_reducible assumption) | assumption)
                                    have hcut79 := cut_from (P := Try.prog) 22 36 .i64 Try.underlying22 hi079 4 hsz79 Ao78 t261.length co78 x11_7 q079 q79
                                    have hr79 := Kd.C_drop (m := (x11_7 : Int).toNat) (c := co78) hC79 (by omega) hroom79
                                    obtain ⟨A79, hA79⟩ : ∃ A1, A1 = (if co78 = (x11_7 : Int).toNat then Ao78 else (Ao78 : Option Addr).map (·.add ((x11_7 : Int).toNat * 4))) := ⟨_, rfl⟩
                                    obtain ⟨c79, hc79⟩ : ∃ c1, c1 = co78 - (x11_7 : Int).toNat := ⟨_, rfl⟩
                                    have hy79 : y289.length = t261.length - (x11_7 : Int).toNat := (by rw [Ny289.out, List.length_drop] <;> omega)
                                    rw [show (t261).drop (x11_7 : Int).toNat = y289 from Ny289.out.symm] at hr79
                                    replace hr79 : Kd.C k36 _ A79 y289.length y289 := (by rw [hA79]; exact hr79)
                                    rw [← hy79, ← hA79, ← hc79] at hcut79
                                    have HR292 := Aside0.mk hr79
                                    have HC292 := Aside0.mk (show y289.length ≤ c79 from by rw [hy79, hc79]; exact Nat.sub_le_sub_right hroom79 _)
                                    clear hr79 hC79 hroom79 hi079 hsz79 hc79
                                    have KY79 := Aside0.mk hy79
                                    have KA79 := Aside0.mk hA79
                                    clear hy79 hA79
                                    have KL79 := Aside0.mk (show (x11_7 : Int).toNat ≤ t261.length from by omega)
                                    replace q79 := eq_true q79
                                    refine start_ (n := 12) (S := fun w' => w'.cell? ⟨gb272, 0, none⟩ = some (.int .i64 t264) ∧ w'.cell? ⟨gb272, 1, none⟩ = some (.int .i64 t265) ∧ w'.cell? ⟨gb272, 2, none⟩ = some (.int .i64 x273002_29) ∧ w'.cell? ⟨gb272, 3, none⟩ = some (.bool false)) (ds := []) #[false, false, false, false, false, false, false, false, false, false, false, false] (by kernel_rfl) rfl rfl ⟨(blk_cell BK272.out 0).trans rfl, (blk_cell BK272.out 1).trans rfl, (blk_cell BK272.out 2).trans rfl, (blk_cell BK272.out 3).trans rfl⟩ (fun hHeld => ?_); refine with_tabW partitalaw11_TempoSplit.tab13 partitalaw11_TempoSplit.bits13 (fun HT_ HW_ => ?_)
                                    generalize wc.drew = w76 at HO_8 BK266 BK269 BK272 HB HR279 HR292 hHeld ⊢
                                    refine pure_ (i := 0) (N := some 75) (v := ?_) (a' := ?_) #[true, false, false, false, false, false, false, false, false, false, false, false] rfl rfl (any_of HT_.out (by kernel_rfl)) (fun _ _ _ h => h) (Or.inl ⟨by rfl, ?_⟩) ?_ ?_
                                    rotate_left
                                    · intro w'
                                      go_simp
                                      with_reducible rfl
                                    rotate_left
                                    · simp only [Act.put, List.setIfInBounds_toArray, List.set_cons_zero, List.set_cons_succ, i64_w, i32_w]
                                      rfl
                                    refine pure_ (i := 1) (N := some 76) (v := ?_) (a' := ?_) #[true, true, false, false, false, false, false, false, false, false, false, false] rfl rfl (any_of HT_.out (by kernel_rfl)) (fun _ _ _ h => h) (Or.inl ⟨by rfl, ?_⟩) ?_ ?_
                                    rotate_left
                                    · intro w'
                                      go_simp
                                      with_reducible rfl
                                    rotate_left
                                    · simp only [Act.put, List.setIfInBounds_toArray, List.set_cons_zero, List.set_cons_succ, i64_w, i32_w]
                                      rfl
                                    refine pure_ (i := 2) (N := some 77) (v := ?_) (a' := ?_) #[true, true, true, false, false, false, false, false, false, false, false, false] rfl rfl (any_of HT_.out (by kernel_rfl)) (fun _ _ _ h => h) (Or.inl ⟨by rfl, ?_⟩) ?_ ?_
                                    rotate_left
                                    · intro w'
                                      go_simp
                                      with_reducible rfl
                                    rotate_left
                                    · simp only [Act.put, List.setIfInBounds_toArray, List.set_cons_zero, List.set_cons_succ, i64_w, i32_w]
                                      rfl
                                    refine pure_ (i := 7) (N := some 82) (v := ?_) (a' := ?_) #[true, true, true, false, false, false, false, true, false, false, false, false] rfl rfl (any_of HT_.out (by kernel_rfl)) (fun _ _ _ h => h) (Or.inl ⟨by rfl, ?_⟩) ?_ ?_
                                    rotate_left
                                    · intro w'
                                      go_simp
                                      with_reducible rfl
                                    rotate_left
                                    · simp only [Act.put, List.setIfInBounds_toArray, List.set_cons_zero, List.set_cons_succ, i64_w, i32_w]
                                      rfl
                                    refine pure_ (i := 8) (N := some 83) (v := ?_) (a' := ?_) #[true, true, true, false, false, false, false, true, true, false, false, false] rfl rfl (any_of HT_.out (by kernel_rfl)) (fun _ _ _ h => h) (Or.inl ⟨by rfl, ?_⟩) ?_ ?_
                                    rotate_left
                                    · intro w'
                                      go_simp
                                      with_reducible rfl
                                    rotate_left
                                    · simp only [Act.put, List.setIfInBounds_toArray, List.set_cons_zero, List.set_cons_succ, i64_w, i32_w]
                                      rfl
                                    refine pure_ (i := 9) (N := some 84) (v := ?_) (a' := ?_) #[true, true, true, false, false, false, false, true, true, true, false, false] rfl rfl (any_of HT_.out (by kernel_rfl)) (fun _ _ _ h => h) (Or.inl ⟨by rfl, ?_⟩) ?_ ?_
                                    rotate_left
                                    · intro w'
                                      go_simp
                                      with_reducible rfl
                                    rotate_left
                                    · simp only [Act.put, List.setIfInBounds_toArray, List.set_cons_zero, List.set_cons_succ, i64_w, i32_w]
                                      rfl
                                    refine take_ (i := 4) (N := some 79) (v := ?_) (a' := ?_) #[true, true, true, false, true, false, false, true, true, true, false, false] rfl rfl (take_ofW HT_.out HW_.out (by kernel_rfl)) (fun _ _ _ h => h) (Or.inl ⟨by rfl, ?_⟩) hHeld ?_ ?_
                                    rotate_left
                                    · rintro w' ⟨s0, s1, s2, s3⟩
                                      go_simp
                                      with_reducible rfl
                                    rotate_left
                                    · simp only [Act.put, List.setIfInBounds_toArray, List.set_cons_zero, List.set_cons_succ, i64_w, i32_w]
                                      rfl
                                    refine join_ (σ := Value × Value) 3 #[true, true, true, true, true, true, false, true, true, true, false, false] (fun s_ => [(78, s_.1), (80, s_.2)]) (fun s_ w' => (w'.cell? ⟨gb272, 0, none⟩ = some (.int .i64 t264) ∧ w'.cell? ⟨gb272, 1, none⟩ = some (.int .i64 t265) ∧ w'.cell? ⟨gb272, 2, none⟩ = some (.int .i64 x273002_29) ∧ w'.cell? ⟨gb272, 3, none⟩ = some (.bool false)) ∧ (Kd.R k36 36 w' w.heap.size (fun k_ => some k_ ≠ (s_.2 : Value).ownBlock ∧ some k_ ≠ (.slice Ao78 t261.length co78 : Value).ownBlock ∧ k_ ≠ gb272) s_.1 y280) ∧ (Kd.R k36 36 w' w.heap.size (fun k_ => some k_ ≠ (s_.1 : Value).ownBlock ∧ some k_ ≠ (.slice Ao78 t261.length co78 : Value).ownBlock ∧ k_ ≠ gb272) s_.2 y283) ∧ (Kd.R k36 36 w' w.heap.size (fun k_ => some k_ ≠ (s_.1 : Value).ownBlock ∧ some k_ ≠ (s_.2 : Value).ownBlock ∧ k_ ≠ gb272) (.slice Ao78 t261.length co78) t261) ∧ (w'.heap[gb266]? = some (.cells #[.int .i64 t264, .int .i64 t265] 27 (0, 0))) ∧ (w'.heap[gb269]? = some (.cells #[.int .i64 t267, .int .i64 t268] 27 (0, 0))) ∧ (w'.heap[gb272]? = some (.cells #[.int .i64 t264, .int .i64 t265, .int .i64 x273002_29, .bool false] 36 (0, 0))) ∧ (Below w.heap.size w w')) ?_ ?_
                                    rotate_left
                                    · intro hCont
                                      refine two_ (i := 3) (j := 5) (Ni := some 78) (Nj := some 80) #[true, true, true, true, true, false, false, true, true, true, false, false] #[true, true, true, false, true, true, false, true, true, true, false, false] rfl rfl rfl rfl (two_of HT_.out (by kernel_rfl)) (by decide) (by decide) (fun K hK => ?_) (fun K hK => ?_)
                                      · skip
                                        refine Kd.R_append_rows_step k36 (w0 := w) w.heap.size (by rfl) (.const (.slice none 0 0)) (.tmp 77) 22 36 (.agg #[(.int .i64 0), (.int .i64 0), (.int .i64 0), (.bool false)]) 32 rfl Try.underlying22 info36 rfl (by decide) (by omega) (.slice none 0 0) ([] : List (S36)) y276 _ _ _ (fun k_ => some k_ ≠ (.slice Ao78 t261.length co78 : Value).ownBlock ∧ k_ ≠ gb272) (fun _ => False) rfl rfl ?aO ?aR (fun _ _ h => h) (fun _ h => h.elim) ?aF ?aB ?aS ?aL ?_
                                        (case aR => repeat (first | exact (by repeat (first | (with_reducible exact HR279.out) | (with_reducible refine Kd.C_alloc ?_ _) | (with_reducible refine Kd.C_drewN ?_ _) | (with_reducible refine Kd.C_drew ?_) | exact HR279.out)) | (with_reducible refine Kd.C_alloc ?_ _) | (with_reducible refine Kd.C_drewN ?_ _) | (with_reducible refine Kd.C_drew ?_)))
                                        (case aB => exact (by repeat (first | (with_reducible first | exact HB.out | apply below_alloc | apply pw_below_drewN | apply below_drew1 | refine below_set ?_ GE266.out | refine below_set ?_ GE269.out | refine below_set ?_ GE272.out) | exact HB.out)))
                                        (case aF => exact (fun k_ hk => ⟨Kd.fresh' (Kd.R_lt (by (with_reducible repeat (first | apply Kd.R_alloc | apply Kd.R_drewN | apply Kd.R_drew)); exact HO_8.out)) k_ hk, Kd.freshB (g := gb272) (o := .cells #[.int .i64 t264, .int .i64 t265, .int .i64 x273002_29, .bool false] 36 (0, 0)) (by (with_reducible repeat (first | refine blk_drewN ?_ _ | refine blk_drew ?_ | refine blk_alloc ?_ _)); exact BK272.out) k_ hk⟩))
                                        (case aO => exact ((Kd.R_nil _ _ _ _ (fun k_ => some k_ ≠ (.slice Ao78 t261.length co78 : Value).ownBlock ∧ k_ ≠ gb272))))
                                        (case aS => exact (below_size (by repeat (first | (with_reducible first | exact HB.out | apply below_alloc | apply pw_below_drewN | apply below_drew1 | refine below_set ?_ GE266.out | refine below_set ?_ GE269.out | refine below_set ?_ GE272.out) | exact HB.out))))
                                        (case aL => have := LMc58.out; omega)
                                        intro v281 w80 ho hb hg hat
                                        rw [← Ny280.out] at ho
                                        have n0_ := Aside0.mk (Kd.R_after (Kd.R_apart_nil (by (with_reducible repeat (first | apply Kd.R_alloc | apply Kd.R_drewN | apply Kd.R_drew)); exact HO_8.out)) hg hat)
                                        have n1_ := Aside0.mk (blk_grown (g := gb266) (o := .cells #[.int .i64 t264, .int .i64 t265] 27 (0, 0)) (by (with_reducible repeat (first | refine blk_drewN ?_ _ | refine blk_drew ?_ | refine blk_alloc ?_ _)); exact BK266.out) hg (by simp [Value.ownBlock]))
                                        have n2_ := Aside0.mk (blk_grown (g := gb269) (o := .cells #[.int .i64 t267, .int .i64 t268] 27 (0, 0)) (by (with_reducible repeat (first | refine blk_drewN ?_ _ | refine blk_drew ?_ | refine blk_alloc ?_ _)); exact BK269.out) hg (by simp [Value.ownBlock]))
                                        have n3_ := Aside0.mk (blk_grown (g := gb272) (o := .cells #[.int .i64 t264, .int .i64 t265, .int .i64 x273002_29, .bool false] 36 (0, 0)) (by (with_reducible repeat (first | refine blk_drewN ?_ _ | refine blk_drew ?_ | refine blk_alloc ?_ _)); exact BK272.out) hg (by simp [Value.ownBlock]))
                                        have n4_ := Aside0.mk (hb)
                                        have n5_ := Aside0.mk ((show Kd.C k36 w80 Ao78 y276.length y276 from by rw [Ny276.out]; exact Kd.C_take (m := (x11_7 : Int).toNat) ((Kd.R_reads' (Kd.R_after (Kd.R_apart_nil (by (with_reducible repeat (first | apply Kd.R_alloc | apply Kd.R_drewN | apply Kd.R_drew)); exact HO_8.out)) hg hat)).2.2) KL77.out))
                                        have n6_ := Aside0.mk ((show Kd.C k36 w80 A79 y289.length y289 from by rw [Ny289.out, KA79.out]; exact Kd.C_drop (m := (x11_7 : Int).toNat) (c := co78) ((Kd.R_reads' (Kd.R_after (Kd.R_apart_nil (by (with_reducible repeat (first | apply Kd.R_alloc | apply Kd.R_drewN | apply Kd.R_drew)); exact HO_8.out)) hg hat)).2.2) KL79.out ((Kd.R_reads' (Kd.R_after (Kd.R_apart_nil (by (with_reducible repeat (first | apply Kd.R_alloc | apply Kd.R_drewN | apply Kd.R_drew)); exact HO_8.out)) hg hat)).2.1)))
                                        have n7_ := Aside0.mk (ho)
                                        clear HO_8
                                        clear BK266
                                        clear BK269
                                        clear BK272
                                        clear HB
                                        clear HR279
                                        clear HR292
                                        have HO_8 := n0_
                                        have BK266 := n1_
                                        have BK269 := n2_
                                        have BK272 := n3_
                                        have HB := n4_
                                        have HR279 := n5_
                                        have HR292 := n6_
                                        have HO282 := n7_
                                        clear n0_ n1_ n2_ n3_ n4_ n5_ n6_ n7_
                                        clear ho hb hg hat
                                        refine hK.out _ _ ⟨(blk_cell BK272.out 0).trans rfl, (blk_cell BK272.out 1).trans rfl, (blk_cell BK272.out 2).trans rfl, (blk_cell BK272.out 3).trans rfl⟩ (fun hHeld => ?_)
                                        clear hK K
                                        refine norm_ (a' := ?_) ?_ ?_
                                        rotate_left
                                        · show Act.put _ (some 78) _ = _
                                          simp only [Act.put, List.setIfInBounds_toArray, List.set_cons_zero, List.set_cons_succ, i64_w, i32_w]
                                          rfl
                                        refine one_ (i := 5) (N := some 80) #[true, true, true, true, true, true, false, true, true, true, false, false] rfl rfl (one_of HT_.out (by kernel_rfl)) (by decide) (fun K hK => ?_)
                                        refine Kd.R_lit_step k36 _ 36 ?hg (N := 80) ?hd (xs := ([(⟨(⟨t264, t265⟩ : S27), x273002_29, false⟩ : S36)] : List (S36))) (inner := [.int .i64 t264, .int .i64 t265, .int .i64 x273002_29, .bool false]) (ok := fun _ => True) (okp := fun _ => True) ?hr ?hp (fun _ hk => hk) trivial (Below.refl _ _) (Nat.le_refl _) (by simp) ?_; (case hd => rfl); (case hg => rfl); (case hr => first | (go_simp; done) | (go_simp; rfl)); (case hp => exact (Reps.c4 (show Kd.M k36 _ _ _ (⟨(⟨t264, t265⟩ : S27), x273002_29, false⟩ : S36) [.int .i64 t264, .int .i64 t265, .int .i64 x273002_29, .bool false] from (k36_mkM _ _ _ (⟨(⟨t264, t265⟩ : S27), x273002_29, false⟩ : S36) )) (Reps.none _ _)))
                                        intro v284 w81 ho82 hb hg_ hnew_
                                        clear hg_ hnew_
                                        (first | rw [← Ny283.out] at ho82 | (simp only [Int.reduceToNat] at ho82; rw [← Ny283.out] at ho82))
                                        have n0_ := Aside0.mk (Kd.R_elder' (by (with_reducible repeat (first | apply Kd.R_alloc | apply Kd.R_drewN | apply Kd.R_drew)); exact HO_8.out) (Kd.R_base ho82) hb)
                                        have n1_ := Aside0.mk (Kd.R_elder' (by (with_reducible repeat (first | apply Kd.R_alloc | apply Kd.R_drewN | apply Kd.R_drew)); exact HO282.out) (Kd.R_base ho82) hb)
                                        have n2_ := Aside0.mk (Kd.R_lower (Kd.R_newB (Kd.R_new' (Kd.R_new' ho82 (Kd.R_lt (by (with_reducible repeat (first | apply Kd.R_alloc | apply Kd.R_drewN | apply Kd.R_drew)); exact HO_8.out))) (Kd.R_lt (by (with_reducible repeat (first | apply Kd.R_alloc | apply Kd.R_drewN | apply Kd.R_drew)); exact HO282.out))) (g := gb272) (o := .cells #[.int .i64 t264, .int .i64 t265, .int .i64 x273002_29, .bool false] 36 (0, 0)) (by (with_reducible repeat (first | refine blk_drewN ?_ _ | refine blk_drew ?_ | refine blk_alloc ?_ _)); exact BK272.out)) (below_size (by repeat (first | (with_reducible first | exact HB.out | apply below_alloc | apply pw_below_drewN | apply below_drew1 | refine below_set ?_ GE266.out | refine below_set ?_ GE269.out | refine below_set ?_ GE272.out) | exact HB.out))))
                                        have n3_ := Aside0.mk (blk_below (g := gb266) (o := .cells #[.int .i64 t264, .int .i64 t265] 27 (0, 0)) (by (with_reducible repeat (first | refine blk_drewN ?_ _ | refine blk_drew ?_ | refine blk_alloc ?_ _)); exact BK266.out) hb)
                                        have n4_ := Aside0.mk (blk_below (g := gb269) (o := .cells #[.int .i64 t267, .int .i64 t268] 27 (0, 0)) (by (with_reducible repeat (first | refine blk_drewN ?_ _ | refine blk_drew ?_ | refine blk_alloc ?_ _)); exact BK269.out) hb)
                                        have n5_ := Aside0.mk (blk_below (g := gb272) (o := .cells #[.int .i64 t264, .int .i64 t265, .int .i64 x273002_29, .bool false] 36 (0, 0)) (by (with_reducible repeat (first | refine blk_drewN ?_ _ | refine blk_drew ?_ | refine blk_alloc ?_ _)); exact BK272.out) hb)
                                        have n6_ := Aside0.mk (Kd.C_below (by repeat (first | (with_reducible exact HR279.out) | (with_reducible refine Kd.C_alloc ?_ _) | (with_reducible refine Kd.C_drewN ?_ _) | (with_reducible refine Kd.C_drew ?_) | exact HR279.out)) hb)
                                        have n7_ := Aside0.mk (Kd.C_below (by repeat (first | (with_reducible exact HR292.out) | (with_reducible refine Kd.C_alloc ?_ _) | (with_reducible refine Kd.C_drewN ?_ _) | (with_reducible refine Kd.C_drew ?_) | exact HR292.out)) hb)
                                        have n8_ := Aside0.mk (below_step (by repeat (first | (with_reducible first | exact HB.out | apply below_alloc | apply pw_below_drewN | apply below_drew1 | refine below_set ?_ GE266.out | refine below_set ?_ GE269.out | refine below_set ?_ GE272.out) | exact HB.out)) hb)
                                        clear HO_8
                                        clear HO282
                                        clear BK266
                                        clear BK269
                                        clear BK272
                                        clear HR279
                                        clear HR292
                                        clear HB
                                        have HO_8 := n0_
                                        have HO282 := n1_
                                        have HO285 := n2_
                                        have BK266 := n3_
                                        have BK269 := n4_
                                        have BK272 := n5_
                                        have HR279 := n6_
                                        have HR292 := n7_
                                        have HB := n8_
                                        clear n0_ n1_ n2_ n3_ n4_ n5_ n6_ n7_ n8_
                                        clear hb ho82
                                        refine hK.out _ _ ⟨(blk_cell BK272.out 0).trans rfl, (blk_cell BK272.out 1).trans rfl, (blk_cell BK272.out 2).trans rfl, (blk_cell BK272.out 3).trans rfl⟩ (fun hHeld => ?_)
                                        clear hK K
                                        refine norm_ (a' := ?_) ?_ ?_
                                        rotate_left
                                        · show Act.put _ (some 80) _ = _
                                          simp only [Act.put, List.setIfInBounds_toArray, List.set_cons_zero, List.set_cons_succ, i64_w, i32_w]
                                          rfl
                                        exact norm_ (by simp only [putAll, Act.put, List.setIfInBounds_toArray, List.set_cons_zero, List.set_cons_succ]) (hCont (v281, v284) _ ⟨hHeld, (by (with_reducible repeat (first | apply Kd.R_alloc | apply Kd.R_drewN | apply Kd.R_drew)); exact Kd.R_mono HO282.out (fun _ hk => ⟨hk.2, ⟨hk.1.1, hk.1.2⟩⟩)), (by (with_reducible repeat (first | apply Kd.R_alloc | apply Kd.R_drewN | apply Kd.R_drew)); exact Kd.R_mono HO285.out (fun _ hk => ⟨hk.1.2, ⟨hk.1.1.2, hk.2⟩⟩)), (by (with_reducible repeat (first | apply Kd.R_alloc | apply Kd.R_drewN | apply Kd.R_drew)); exact Kd.R_mono HO_8.out (fun _ hk => ⟨hk.1.2, ⟨hk.2, hk.1.1⟩⟩)), (by (with_reducible repeat (first | refine blk_drewN ?_ _ | refine blk_drew ?_ | refine blk_alloc ?_ _)); exact BK266.out), (by (with_reducible repeat (first | refine blk_drewN ?_ _ | refine blk_drew ?_ | refine blk_alloc ?_ _)); exact BK269.out), (by (with_reducible repeat (first | refine blk_drewN ?_ _ | refine blk_drew ?_ | refine blk_alloc ?_ _)); exact BK272.out), (by repeat (first | (with_reducible first | exact HB.out | apply below_alloc | apply pw_below_drewN | apply below_drew1 | refine below_set ?_ GE266.out | refine below_set ?_ GE269.out | refine below_set ?_ GE272.out) | exact HB.out))⟩)
                                      · skip
                                        refine Kd.R_lit_step k36 _ 36 ?hg (N := 80) ?hd (xs := ([(⟨(⟨t264, t265⟩ : S27), x273002_29, false⟩ : S36)] : List (S36))) (inner := [.int .i64 t264, .int .i64 t265, .int .i64 x273002_29, .bool false]) (ok := fun _ => True) (okp := fun _ => True) ?hr ?hp (fun _ hk => hk) trivial (Below.refl _ _) (Nat.le_refl _) (by simp) ?_; (case hd => rfl); (case hg => rfl); (case hr => first | (go_simp; done) | (go_simp; rfl)); (case hp => exact (Reps.c4 (show Kd.M k36 _ _ _ (⟨(⟨t264, t265⟩ : S27), x273002_29, false⟩ : S36) [.int .i64 t264, .int .i64 t265, .int .i64 x273002_29, .bool false] from (k36_mkM _ _ _ (⟨(⟨t264, t265⟩ : S27), x273002_29, false⟩ : S36) )) (Reps.none _ _)))
                                        intro v284 w80 ho81 hb hg_ hnew_
                                        clear hg_ hnew_
                                        (first | rw [← Ny283.out] at ho81 | (simp only [Int.reduceToNat] at ho81; rw [← Ny283.out] at ho81))
                                        have n0_ := Aside0.mk (Kd.R_elder' (by (with_reducible repeat (first | apply Kd.R_alloc | apply Kd.R_drewN | apply Kd.R_drew)); exact HO_8.out) (Kd.R_base ho81) hb)
                                        have n1_ := Aside0.mk (Kd.R_lower (Kd.R_newB (Kd.R_new' ho81 (Kd.R_lt (by (with_reducible repeat (first | apply Kd.R_alloc | apply Kd.R_drewN | apply Kd.R_drew)); exact HO_8.out))) (g := gb272) (o := .cells #[.int .i64 t264, .int .i64 t265, .int .i64 x273002_29, .bool false] 36 (0, 0)) (by (with_reducible repeat (first | refine blk_drewN ?_ _ | refine blk_drew ?_ | refine blk_alloc ?_ _)); exact BK272.out)) (below_size (by repeat (first | (with_reducible first | exact HB.out | apply below_alloc | apply pw_below_drewN | apply below_drew1 | refine below_set ?_ GE266.out | refine below_set ?_ GE269.out | refine below_set ?_ GE272.out) | exact HB.out))))
                                        have n2_ := Aside0.mk (blk_below (g := gb266) (o := .cells #[.int .i64 t264, .int .i64 t265] 27 (0, 0)) (by (with_reducible repeat (first | refine blk_drewN ?_ _ | refine blk_drew ?_ | refine blk_alloc ?_ _)); exact BK266.out) hb)
                                        have n3_ := Aside0.mk (blk_below (g := gb269) (o := .cells #[.int .i64 t267, .int .i64 t268] 27 (0, 0)) (by (with_reducible repeat (first | refine blk_drewN ?_ _ | refine blk_drew ?_ | refine blk_alloc ?_ _)); exact BK269.out) hb)
                                        have n4_ := Aside0.mk (blk_below (g := gb272) (o := .cells #[.int .i64 t264, .int .i64 t265, .int .i64 x273002_29, .bool false] 36 (0, 0)) (by (with_reducible repeat (first | refine blk_drewN ?_ _ | refine blk_drew ?_ | refine blk_alloc ?_ _)); exact BK272.out) hb)
                                        have n5_ := Aside0.mk (Kd.C_below (by repeat (first | (with_reducible exact HR279.out) | (with_reducible refine Kd.C_alloc ?_ _) | (with_reducible refine Kd.C_drewN ?_ _) | (with_reducible refine Kd.C_drew ?_) | exact HR279.out)) hb)
                                        have n6_ := Aside0.mk (Kd.C_below (by repeat (first | (with_reducible exact HR292.out) | (with_reducible refine Kd.C_alloc ?_ _) | (with_reducible refine Kd.C_drewN ?_ _) | (with_reducible refine Kd.C_drew ?_) | exact HR292.out)) hb)
                                        have n7_ := Aside0.mk (below_step (by repeat (first | (with_reducible first | exact HB.out | apply below_alloc | apply pw_below_drewN | apply below_drew1 | refine below_set ?_ GE266.out | refine below_set ?_ GE269.out | refine below_set ?_ GE272.out) | exact HB.out)) hb)
                                        clear HO_8
                                        clear BK266
                                        clear BK269
                                        clear BK272
                                        clear HR279
                                        clear HR292
                                        clear HB
                                        have HO_8 := n0_
                                        have HO285 := n1_
                                        have BK266 := n2_
                                        have BK269 := n3_
                                        have BK272 := n4_
                                        have HR279 := n5_
                                        have HR292 := n6_
                                        have HB := n7_
                                        clear n0_ n1_ n2_ n3_ n4_ n5_ n6_ n7_
                                        clear hb ho81
                                        refine hK.out _ _ ⟨(blk_cell BK272.out 0).trans rfl, (blk_cell BK272.out 1).trans rfl, (blk_cell BK272.out 2).trans rfl, (blk_cell BK272.out 3).trans rfl⟩ (fun hHeld => ?_)
                                        clear hK K
                                        refine norm_ (a' := ?_) ?_ ?_
                                        rotate_left
                                        · show Act.put _ (some 80) _ = _
                                          simp only [Act.put, List.setIfInBounds_toArray, List.set_cons_zero, List.set_cons_succ, i64_w, i32_w]
                                          rfl
                                        refine one_ (i := 3) (N := some 78) #[true, true, true, true, true, true, false, true, true, true, false, false] rfl rfl (one_of HT_.out (by kernel_rfl)) (by decide) (fun K hK => ?_)
                                        refine Kd.R_append_rows_step k36 (w0 := w) w.heap.size (by rfl) (.const (.slice none 0 0)) (.tmp 77) 22 36 (.agg #[(.int .i64 0), (.int .i64 0), (.int .i64 0), (.bool false)]) 32 rfl Try.underlying22 info36 rfl (by decide) (by omega) (.slice none 0 0) ([] : List (S36)) y276 _ _ _ (fun k_ => some k_ ≠ (.slice Ao78 t261.length co78 : Value).ownBlock ∧ some k_ ≠ (v284 : Value).ownBlock ∧ k_ ≠ gb272) (fun _ => False) rfl rfl ?aO ?aR (fun _ _ h => h) (fun _ h => h.elim) ?aF ?aB ?aS ?aL ?_
                                        (case aR => repeat (first | exact (by repeat (first | (with_reducible exact HR279.out) | (with_reducible refine Kd.C_alloc ?_ _) | (with_reducible refine Kd.C_drewN ?_ _) | (with_reducible refine Kd.C_drew ?_) | exact HR279.out)) | (with_reducible refine Kd.C_alloc ?_ _) | (with_reducible refine Kd.C_drewN ?_ _) | (with_reducible refine Kd.C_drew ?_)))
                                        (case aB => exact (by repeat (first | (with_reducible first | exact HB.out | apply below_alloc | apply pw_below_drewN | apply below_drew1 | refine below_set ?_ GE266.out | refine below_set ?_ GE269.out | refine below_set ?_ GE272.out) | exact HB.out)))
                                        (case aF => exact (fun k_ hk => ⟨Kd.fresh' (Kd.R_lt (by (with_reducible repeat (first | apply Kd.R_alloc | apply Kd.R_drewN | apply Kd.R_drew)); exact HO_8.out)) k_ hk, Kd.fresh' (Kd.R_lt (by (with_reducible repeat (first | apply Kd.R_alloc | apply Kd.R_drewN | apply Kd.R_drew)); exact HO285.out)) k_ hk, Kd.freshB (g := gb272) (o := .cells #[.int .i64 t264, .int .i64 t265, .int .i64 x273002_29, .bool false] 36 (0, 0)) (by (with_reducible repeat (first | refine blk_drewN ?_ _ | refine blk_drew ?_ | refine blk_alloc ?_ _)); exact BK272.out) k_ hk⟩))
                                        (case aO => exact ((Kd.R_nil _ _ _ _ (fun k_ => some k_ ≠ (.slice Ao78 t261.length co78 : Value).ownBlock ∧ some k_ ≠ (v284 : Value).ownBlock ∧ k_ ≠ gb272))))
                                        (case aS => exact (below_size (by repeat (first | (with_reducible first | exact HB.out | apply below_alloc | apply pw_below_drewN | apply below_drew1 | refine below_set ?_ GE266.out | refine below_set ?_ GE269.out | refine below_set ?_ GE272.out) | exact HB.out))))
                                        (case aL => have := LMc58.out; omega)
                                        intro v281 w82 ho hb hg hat
                                        rw [← Ny280.out] at ho
                                        have n0_ := Aside0.mk (Kd.R_after (Kd.R_apart_nil (by (with_reducible repeat (first | apply Kd.R_alloc | apply Kd.R_drewN | apply Kd.R_drew)); exact HO_8.out)) hg hat)
                                        have n1_ := Aside0.mk (blk_grown (g := gb266) (o := .cells #[.int .i64 t264, .int .i64 t265] 27 (0, 0)) (by (with_reducible repeat (first | refine blk_drewN ?_ _ | refine blk_drew ?_ | refine blk_alloc ?_ _)); exact BK266.out) hg (by simp [Value.ownBlock]))
                                        have n2_ := Aside0.mk (blk_grown (g := gb269) (o := .cells #[.int .i64 t267, .int .i64 t268] 27 (0, 0)) (by (with_reducible repeat (first | refine blk_drewN ?_ _ | refine blk_drew ?_ | refine blk_alloc ?_ _)); exact BK269.out) hg (by simp [Value.ownBlock]))
                                        have n3_ := Aside0.mk (blk_grown (g := gb272) (o := .cells #[.int .i64 t264, .int .i64 t265, .int .i64 x273002_29, .bool false] 36 (0, 0)) (by (with_reducible repeat (first | refine blk_drewN ?_ _ | refine blk_drew ?_ | refine blk_alloc ?_ _)); exact BK272.out) hg (by simp [Value.ownBlock]))
                                        have n4_ := Aside0.mk (Kd.R_after (Kd.R_apart_nil (by (with_reducible repeat (first | apply Kd.R_alloc | apply Kd.R_drewN | apply Kd.R_drew)); exact HO285.out)) hg hat)
                                        have n5_ := Aside0.mk (hb)
                                        have n6_ := Aside0.mk ((show Kd.C k36 w82 Ao78 y276.length y276 from by rw [Ny276.out]; exact Kd.C_take (m := (x11_7 : Int).toNat) ((Kd.R_reads' (Kd.R_after (Kd.R_apart_nil (by (with_reducible repeat (first | apply Kd.R_alloc | apply Kd.R_drewN | apply Kd.R_drew)); exact HO_8.out)) hg hat)).2.2) KL77.out))
                                        have n7_ := Aside0.mk ((show Kd.C k36 w82 A79 y289.length y289 from by rw [Ny289.out, KA79.out]; exact Kd.C_drop (m := (x11_7 : Int).toNat) (c := co78) ((Kd.R_reads' (Kd.R_after (Kd.R_apart_nil (by (with_reducible repeat (first | apply Kd.R_alloc | apply Kd.R_drewN | apply Kd.R_drew)); exact HO_8.out)) hg hat)).2.2) KL79.out ((Kd.R_reads' (Kd.R_after (Kd.R_apart_nil (by (with_reducible repeat (first | apply Kd.R_alloc | apply Kd.R_drewN | apply Kd.R_drew)); exact HO_8.out)) hg hat)).2.1)))
                                        have n8_ := Aside0.mk (ho)
                                        clear HO_8
                                        clear BK266
                                        clear BK269
                                        clear BK272
                                        clear HO285
                                        clear HB
                                        clear HR279
                                        clear HR292
                                        have HO_8 := n0_
                                        have BK266 := n1_
                                        have BK269 := n2_
                                        have BK272 := n3_
                                        have HO285 := n4_
                                        have HB := n5_
                                        have HR279 := n6_
                                        have HR292 := n7_
                                        have HO282 := n8_
                                        clear n0_ n1_ n2_ n3_ n4_ n5_ n6_ n7_ n8_
                                        clear ho hb hg hat
                                        refine hK.out _ _ ⟨(blk_cell BK272.out 0).trans rfl, (blk_cell BK272.out 1).trans rfl, (blk_cell BK272.out 2).trans rfl, (blk_cell BK272.out 3).trans rfl⟩ (fun hHeld => ?_)
                                        clear hK K
                                        refine norm_ (a' := ?_) ?_ ?_
                                        rotate_left
                                        · show Act.put _ (some 78) _ = _
                                          simp only [Act.put, List.setIfInBounds_toArray, List.set_cons_zero, List.set_cons_succ, i64_w, i32_w]
                                          rfl
                                        exact norm_ (by simp only [putAll, Act.put, List.setIfInBounds_toArray, List.set_cons_zero, List.set_cons_succ]) (hCont (v281, v284) _ ⟨hHeld, (by (with_reducible repeat (first | apply Kd.R_alloc | apply Kd.R_drewN | apply Kd.R_drew)); exact Kd.R_mono HO282.out (fun _ hk => ⟨hk.2.1, ⟨hk.1, hk.2.2⟩⟩)), (by (with_reducible repeat (first | apply Kd.R_alloc | apply Kd.R_drewN | apply Kd.R_drew)); exact Kd.R_mono HO285.out (fun _ hk => ⟨hk.2, ⟨hk.1.1.2, hk.1.2⟩⟩)), (by (with_reducible repeat (first | apply Kd.R_alloc | apply Kd.R_drewN | apply Kd.R_drew)); exact Kd.R_mono HO_8.out (fun _ hk => ⟨hk.2, ⟨hk.1.2, hk.1.1⟩⟩)), (by (with_reducible repeat (first | refine blk_drewN ?_ _ | refine blk_drew ?_ | refine blk_alloc ?_ _)); exact BK266.out), (by (with_reducible repeat (first | refine blk_drewN ?_ _ | refine blk_drew ?_ | refine blk_alloc ?_ _)); exact BK269.out), (by (with_reducible repeat (first | refine blk_drewN ?_ _ | refine blk_drew ?_ | refine blk_alloc ?_ _)); exact BK272.out), (by repeat (first | (with_reducible first | exact HB.out | apply below_alloc | apply pw_below_drewN | apply below_drew1 | refine below_set ?_ GE266.out | refine below_set ?_ GE269.out | refine below_set ?_ GE272.out) | exact HB.out))⟩)
                                    rintro ⟨v281, v284⟩ w83 ⟨hS_, h0_, h1_, h2_, h3_, h4_, h5_, h6_⟩
                                    have n0_ : Aside0 (Kd.R k36 36 w83 w.heap.size (fun k_ => some k_ ≠ (v284 : Value).ownBlock ∧ some k_ ≠ (.slice Ao78 t261.length co78 : Value).ownBlock ∧ k_ ≠ gb272) v281 y280) := ⟨h0_⟩
                                    have n1_ : Aside0 (Kd.R k36 36 w83 w.heap.size (fun k_ => some k_ ≠ (v281 : Value).ownBlock ∧ some k_ ≠ (.slice Ao78 t261.length co78 : Value).ownBlock ∧ k_ ≠ gb272) v284 y283) := ⟨h1_⟩
                                    have n2_ : Aside0 (Kd.R k36 36 w83 w.heap.size (fun k_ => some k_ ≠ (v281 : Value).ownBlock ∧ some k_ ≠ (v284 : Value).ownBlock ∧ k_ ≠ gb272) (.slice Ao78 t261.length co78) t261) := ⟨h2_⟩
                                    have n3_ : Aside0 (w83.heap[gb266]? = some (.cells #[.int .i64 t264, .int .i64 t265] 27 (0, 0))) := ⟨h3_⟩
                                    have n4_ : Aside0 (w83.heap[gb269]? = some (.cells #[.int .i64 t267, .int .i64 t268] 27 (0, 0))) := ⟨h4_⟩
                                    have n5_ : Aside0 (w83.heap[gb272]? = some (.cells #[.int .i64 t264, .int .i64 t265, .int .i64 x273002_29, .bool false] 36 (0, 0))) := ⟨h5_⟩
                                    have n6_ : Aside0 (Below w.heap.size w w83) := ⟨h6_⟩
                                    clear HO_8
                                    clear BK266
                                    clear BK269
                                    clear BK272
                                    clear HB
                                    clear h0_ h1_ h2_ h3_ h4_ h5_ h6_
                                    have HO282 := n0_
                                    have HO285 := n1_
                                    have HO_8 := n2_
                                    have BK266 := n3_
                                    have BK269 := n4_
                                    have BK272 := n5_
                                    have HB := n6_
                                    clear n0_ n1_ n2_ n3_ n4_ n5_ n6_
                                    have hHeld : w83.cell? ⟨gb272, 0, none⟩ = some (.int .i64 t264) ∧ w83.cell? ⟨gb272, 1, none⟩ = some (.int .i64 t265) ∧ w83.cell? ⟨gb272, 2, none⟩ = some (.int .i64 x273002_29) ∧ w83.cell? ⟨gb272, 3, none⟩ = some (.bool false) := hS_
                                    obtain ⟨Ao85, co85, eo85⟩ := Kd.R_slice HO285.out
                                    (first | subst eo85 | (injection eo85 with f1_ f2_ f3_; have f4_ := f1_.symm; have f5_ := f3_.symm; clear f1_ f2_ f3_; subst f4_; subst f5_))
                                    refine norm_ (a' := ?_) ?_ ?_
                                    rotate_left
                                    · simp only [putAll, Act.put, List.setIfInBounds_toArray, List.set_cons_zero, List.set_cons_succ]
                                      rfl
                                    refine one_ (i := 6) (N := some 81) #[true, true, true, true, true, true, true, true, true, true, false, false] rfl rfl (one_of HT_.out (by kernel_rfl)) (by decide) (fun K hK => ?_)
                                    refine Kd.R_append_rows_step k36 (w0 := w) w.heap.size (by rfl) (.tmp 78) (.tmp 80) 22 36 (.agg #[(.int .i64 0), (.int .i64 0), (.int .i64 0), (.bool false)]) 32 rfl Try.underlying22 info36 rfl (by decide) (by omega) v281 y280 y283 _ _ _ (fun k_ => some k_ ≠ (.slice Ao78 t261.length co78 : Value).ownBlock ∧ some k_ ≠ (.slice Ao85 y283.length co85 : Value).ownBlock ∧ k_ ≠ gb272) (fun _ => False) rfl rfl ?aO ?aR (fun _ _ h => h) (fun _ h => h.elim) ?aF ?aB ?aS ?aL ?_
                                    (case aR => repeat (first | exact (Kd.R_reads' HO285.out).2.2 | (with_reducible refine Kd.C_alloc ?_ _) | (with_reducible refine Kd.C_drewN ?_ _) | (with_reducible refine Kd.C_drew ?_)))
                                    (case aB => exact (by repeat (first | (with_reducible first | exact HB.out | apply below_alloc | apply pw_below_drewN | apply below_drew1 | refine below_set ?_ GE266.out | refine below_set ?_ GE269.out | refine below_set ?_ GE272.out) | exact HB.out)))
                                    (case aF => exact (fun k_ hk => ⟨Kd.fresh' (Kd.R_lt (by (with_reducible repeat (first | apply Kd.R_alloc | apply Kd.R_drewN | apply Kd.R_drew)); exact HO_8.out)) k_ hk, Kd.fresh' (Kd.R_lt (by (with_reducible repeat (first | apply Kd.R_alloc | apply Kd.R_drewN | apply Kd.R_drew)); exact HO285.out)) k_ hk, Kd.freshB (g := gb272) (o := .cells #[.int .i64 t264, .int .i64 t265, .int .i64 x273002_29, .bool false] 36 (0, 0)) (by (with_reducible repeat (first | refine blk_drewN ?_ _ | refine blk_drew ?_ | refine blk_alloc ?_ _)); exact BK272.out) k_ hk⟩))
                                    (case aO => exact (by (with_reducible repeat (first | apply Kd.R_alloc | apply Kd.R_drewN | apply Kd.R_drew)); exact Kd.R_mono HO282.out (fun _ hk => ⟨hk.2.1, ⟨hk.1, hk.2.2⟩⟩)))
                                    (case aS => exact (below_size (by repeat (first | (with_reducible first | exact HB.out | apply below_alloc | apply pw_below_drewN | apply below_drew1 | refine below_set ?_ GE266.out | refine below_set ?_ GE269.out | refine below_set ?_ GE272.out) | exact HB.out))))
                                    (case aL => have := LMc59.out; omega)
                                    intro v287 w84 ho hb hg hat
                                    rw [← Ny286.out] at ho
                                    have n0_ := Aside0.mk (Kd.R_after (ok := (fun k_ => some k_ ≠ (.slice Ao85 y283.length co85 : Value).ownBlock ∧ k_ ≠ gb272)) (by (with_reducible repeat (first | apply Kd.R_alloc | apply Kd.R_drewN | apply Kd.R_drew)); exact Kd.R_mono HO_8.out (fun _ hk => ⟨⟨hk.2.1, hk.2.2⟩, hk.1⟩)) hg hat)
                                    have n1_ := Aside0.mk (blk_grown (g := gb266) (o := .cells #[.int .i64 t264, .int .i64 t265] 27 (0, 0)) (by (with_reducible repeat (first | refine blk_drewN ?_ _ | refine blk_drew ?_ | refine blk_alloc ?_ _)); exact BK266.out) hg (Kd.R_ne HO282.out BK266.out (by decide)))
                                    have n2_ := Aside0.mk (blk_grown (g := gb269) (o := .cells #[.int .i64 t267, .int .i64 t268] 27 (0, 0)) (by (with_reducible repeat (first | refine blk_drewN ?_ _ | refine blk_drew ?_ | refine blk_alloc ?_ _)); exact BK269.out) hg (Kd.R_ne HO282.out BK269.out (by decide)))
                                    have n3_ := Aside0.mk (blk_grown (g := gb272) (o := .cells #[.int .i64 t264, .int .i64 t265, .int .i64 x273002_29, .bool false] 36 (0, 0)) (by (with_reducible repeat (first | refine blk_drewN ?_ _ | refine blk_drew ?_ | refine blk_alloc ?_ _)); exact BK272.out) hg (Kd.R_away HO282.out (fun _ hk => hk.2.2)))
                                    have n4_ := Aside0.mk (Kd.R_after (ok := (fun k_ => some k_ ≠ (.slice Ao78 t261.length co78 : Value).ownBlock ∧ k_ ≠ gb272)) (by (with_reducible repeat (first | apply Kd.R_alloc | apply Kd.R_drewN | apply Kd.R_drew)); exact Kd.R_mono HO285.out (fun _ hk => ⟨⟨hk.2.1, hk.2.2⟩, hk.1⟩)) hg hat)
                                    have n5_ := Aside0.mk (hb)
                                    have n6_ := Aside0.mk (ho)
                                    clear HO_8
                                    clear BK266
                                    clear BK269
                                    clear BK272
                                    clear HO285
                                    clear HB
                                    clear HO282
                                    have HO_8 := n0_
                                    have BK266 := n1_
                                    have BK269 := n2_
                                    have BK272 := n3_
                                    have HO285 := n4_
                                    have HB := n5_
                                    have HO288 := n6_
                                    clear n0_ n1_ n2_ n3_ n4_ n5_ n6_
                                    clear ho hb hg hat
                                    refine hK.out _ _ ⟨(blk_cell BK272.out 0).trans rfl, (blk_cell BK272.out 1).trans rfl, (blk_cell BK272.out 2).trans rfl, (blk_cell BK272.out 3).trans rfl⟩ (fun hHeld => ?_)
                                    clear hK K
                                    refine norm_ (a' := ?_) ?_ ?_
                                    rotate_left
                                    · show Act.put _ (some 81) _ = _
                                      simp only [Act.put, List.setIfInBounds_toArray, List.set_cons_zero, List.set_cons_succ, i64_w, i32_w]
                                      rfl
                                    refine one_ (i := 10) (N := some 85) #[true, true, true, true, true, true, true, true, true, true, true, false] rfl rfl (one_of HT_.out (by kernel_rfl)) (by decide) (fun K hK => ?_)
                                    refine Kd.R_append_rows_step k36 (w0 := w) w.heap.size (by rfl) (.tmp 81) (.tmp 84) 22 36 (.agg #[(.int .i64 0), (.int .i64 0), (.int .i64 0), (.bool false)]) 32 rfl Try.underlying22 info36 rfl (by decide) (by omega) v287 y286 y289 _ _ _ (fun k_ => some k_ ≠ (.slice Ao78 t261.length co78 : Value).ownBlock ∧ some k_ ≠ (.slice Ao85 y283.length co85 : Value).ownBlock ∧ k_ ≠ gb272) (fun _ => False) rfl rfl ?aO ?aR (fun _ _ h => h) (fun _ h => h.elim) ?aF ?aB ?aS ?aL ?_
                                    (case aR => (have hz_ := Kd.C_drop (m := (x11_7 : Int).toNat) (c := co78) (Kd.R_reads' HO_8.out).2.2 KL79.out (Kd.R_reads' HO_8.out).2.1; rw [show (t261).drop (x11_7 : Int).toNat = y289 from Ny289.out.symm] at hz_; replace hz_ : Kd.C k36 _ A79 y289.length y289 := (by rw [KA79.out]; exact hz_); repeat (first | exact hz_ | (with_reducible refine Kd.C_alloc ?_ _) | (with_reducible refine Kd.C_drewN ?_ _) | (with_reducible refine Kd.C_drew ?_))))
                                    (case aB => exact (by repeat (first | (with_reducible first | exact HB.out | apply below_alloc | apply pw_below_drewN | apply below_drew1 | refine below_set ?_ GE266.out | refine below_set ?_ GE269.out | refine below_set ?_ GE272.out) | exact HB.out)))
                                    (case aF => exact (fun k_ hk => ⟨Kd.fresh' (Kd.R_lt (by (with_reducible repeat (first | apply Kd.R_alloc | apply Kd.R_drewN | apply Kd.R_drew)); exact HO_8.out)) k_ hk, Kd.fresh' (Kd.R_lt (by (with_reducible repeat (first | apply Kd.R_alloc | apply Kd.R_drewN | apply Kd.R_drew)); exact HO285.out)) k_ hk, Kd.freshB (g := gb272) (o := .cells #[.int .i64 t264, .int .i64 t265, .int .i64 x273002_29, .bool false] 36 (0, 0)) (by (with_reducible repeat (first | refine blk_drewN ?_ _ | refine blk_drew ?_ | refine blk_alloc ?_ _)); exact BK272.out) k_ hk⟩))
                                    (case aO => exact (by (with_reducible repeat (first | apply Kd.R_alloc | apply Kd.R_drewN | apply Kd.R_drew)); exact HO288.out))
                                    (case aS => exact (below_size (by repeat (first | (with_reducible first | exact HB.out | apply below_alloc | apply pw_below_drewN | apply below_drew1 | refine below_set ?_ GE266.out | refine below_set ?_ GE269.out | refine below_set ?_ GE272.out) | exact HB.out))))
                                    (case aL => have := LMc62.out; omega)
                                    intro v294 w86 ho hb hg hat
                                    rw [← Ny293.out] at ho
                                    have n0_ := Aside0.mk (Kd.R_after (ok := (fun k_ => some k_ ≠ (.slice Ao85 y283.length co85 : Value).ownBlock ∧ k_ ≠ gb272)) (by (with_reducible repeat (first | apply Kd.R_alloc | apply Kd.R_drewN | apply Kd.R_drew)); exact HO_8.out) hg hat)
                                    have n1_ := Aside0.mk (blk_grown (g := gb266) (o := .cells #[.int .i64 t264, .int .i64 t265] 27 (0, 0)) (by (with_reducible repeat (first | refine blk_drewN ?_ _ | refine blk_drew ?_ | refine blk_alloc ?_ _)); exact BK266.out) hg (Kd.R_ne HO288.out BK266.out (by decide)))
                                    have n2_ := Aside0.mk (blk_grown (g := gb269) (o := .cells #[.int .i64 t267, .int .i64 t268] 27 (0, 0)) (by (with_reducible repeat (first | refine blk_drewN ?_ _ | refine blk_drew ?_ | refine blk_alloc ?_ _)); exact BK269.out) hg (Kd.R_ne HO288.out BK269.out (by decide)))
                                    have n3_ := Aside0.mk (blk_grown (g := gb272) (o := .cells #[.int .i64 t264, .int .i64 t265, .int .i64 x273002_29, .bool false] 36 (0, 0)) (by (with_reducible repeat (first | refine blk_drewN ?_ _ | refine blk_drew ?_ | refine blk_alloc ?_ _)); exact BK272.out) hg (Kd.R_away HO288.out (fun _ hk => hk.2.2)))
                                    have n4_ := Aside0.mk (Kd.R_after (ok := (fun k_ => some k_ ≠ (.slice Ao78 t261.length co78 : Value).ownBlock ∧ k_ ≠ gb272)) (by (with_reducible repeat (first | apply Kd.R_alloc | apply Kd.R_drewN | apply Kd.R_drew)); exact HO285.out) hg hat)
                                    have n5_ := Aside0.mk (hb)
                                    have n6_ := Aside0.mk (ho)
                                    clear HO_8
                                    clear BK266
                                    clear BK269
                                    clear BK272
                                    clear HO285
                                    clear HB
                                    clear HO288
                                    have HO_8 := n0_
                                    have BK266 := n1_
                                    have BK269 := n2_
                                    have BK272 := n3_
                                    have HO285 := n4_
                                    have HB := n5_
                                    have HO295 := n6_
                                    clear n0_ n1_ n2_ n3_ n4_ n5_ n6_
                                    clear ho hb hg hat
                                    refine hK.out _ _ ⟨(blk_cell BK272.out 0).trans rfl, (blk_cell BK272.out 1).trans rfl, (blk_cell BK272.out 2).trans rfl, (blk_cell BK272.out 3).trans rfl⟩ (fun hHeld => ?_)
                                    clear hK K
                                    refine norm_ (a' := ?_) ?_ ?_
                                    rotate_left
                                    · show Act.put _ (some 85) _ = _
                                      simp only [Act.put, List.setIfInBounds_toArray, List.set_cons_zero, List.set_cons_succ, i64_w, i32_w]
                                      rfl
                                    refine pure_ (i := 11) (N := some 13) (v := ?_) (a' := ?_) #[true, true, true, true, true, true, true, true, true, true, true, true] rfl rfl (any_of HT_.out (by kernel_rfl)) (fun _ _ _ h => h) (Or.inl ⟨by rfl, ?_⟩) ?_ ?_
                                    rotate_left
                                    · intro w'
                                      go_simp
                                      with_reducible rfl
                                    rotate_left
                                    · simp only [Act.put, List.setIfInBounds_toArray, List.set_cons_zero, List.set_cons_succ, i64_w, i32_w]
                                      rfl
                                    refine done_ (done_of HT_.out (by kernel_rfl)) ?_
                                    obtain ⟨Ao87, co87, eo87⟩ := Kd.R_slice HO295.out
                                    subst eo87
                                    try go_wp2_with (first | ((with_reducible refine gate_callee (f := 20) rfl ?_); refine goesL_ (some 88) rfl rfl Try.func20 (by kernel_rfl) rfl #[.slice Ao87 y293.length co87] rfl (by (try simp only [List.map_toArray, List.map_cons, List.map_nil]); first | done | rfl | (simp only [List.length_drop, List.length_take]; rfl)) ?_; (with_reducible refine (tempo_Check.calls kj29 _ _ y293 t296 t297 _ ?side1 ?side2 A63.out).mono ?_); (case side1 => repeat (first | exact (Kd.R_reads' HO295.out).2.2 | (with_reducible refine Kd.C_alloc ?_ _) | (with_reducible refine Kd.C_drewN ?_ _) | (with_reducible refine Kd.C_drew ?_))); (case side2 => exact (Kd.R_reads' HO295.out).2.1); rintro e w88 ⟨rfl, hb⟩; refine ⟨_, rfl, ?_⟩; have n0_ := Aside0.mk (Kd.R_below (by (with_reducible repeat (first | apply Kd.R_alloc | apply Kd.R_drewN | apply Kd.R_drew)); exact HO_8.out) hb); have n1_ := Aside0.mk (Kd.R_below (by (with_reducible repeat (first | apply Kd.R_alloc | apply Kd.R_drewN | apply Kd.R_drew)); exact HO285.out) hb); have n2_ := Aside0.mk (Kd.R_below (by (with_reducible repeat (first | apply Kd.R_alloc | apply Kd.R_drewN | apply Kd.R_drew)); exact HO295.out) hb); have n3_ := Aside0.mk (blk_below (g := gb266) (o := .cells #[.int .i64 t264, .int .i64 t265] 27 (0, 0)) (by (with_reducible repeat (first | refine blk_drewN ?_ _ | refine blk_drew ?_ | refine blk_alloc ?_ _)); exact BK266.out) hb); have n4_ := Aside0.mk (blk_below (g := gb269) (o := .cells #[.int .i64 t267, .int .i64 t268] 27 (0, 0)) (by (with_reducible repeat (first | refine blk_drewN ?_ _ | refine blk_drew ?_ | refine blk_alloc ?_ _)); exact BK269.out) hb); have n5_ := Aside0.mk (blk_below (g := gb272) (o := .cells #[.int .i64 t264, .int .i64 t265, .int .i64 x273002_29, .bool false] 36 (0, 0)) (by (with_reducible repeat (first | refine blk_drewN ?_ _ | refine blk_drew ?_ | refine blk_alloc ?_ _)); exact BK272.out) hb); have n6_ := Aside0.mk (below_step (by repeat (first | (with_reducible first | exact HB.out | apply below_alloc | apply pw_below_drewN | apply below_drew1 | refine below_set ?_ GE266.out | refine below_set ?_ GE269.out | refine below_set ?_ GE272.out) | exact HB.out)) hb); clear HO_8; clear HO285; clear HO295; clear BK266; clear BK269; clear BK272; clear HB; have HO_8 := n0_; have HO285 := n1_; have HO295 := n2_; have BK266 := n3_; have BK269 := n4_; have BK272 := n5_; have HB := n6_; clear n0_ n1_ n2_ n3_ n4_ n5_ n6_; (try clear hb); (try clear hb2); (try clear hk); (try clear hi); have hnb89 := NB269_266.out; have hnc89 := NB266_269.out; have hnb90 := NB269_272.out; have hnc90 := NB272_269.out; have hcz91_0 : w88.cell? ⟨gb269, 0, none⟩ = some (.int .i64 t267) := (blk_cell BK269.out 0).trans rfl; have hcz91_1 : w88.cell? ⟨gb269, 1, none⟩ = some (.int .i64 t268) := (blk_cell BK269.out 1).trans rfl; have hfz91_0 := blk_frozen BK269.out 0; have hfz91_1 := blk_frozen BK269.out 1) | ((with_reducible refine gate_callee (f := 17) rfl ?_); refine goesL_ (some 94) rfl rfl Try.func17 (by kernel_rfl) rfl #[.slice Ao78 t261.length co78, .agg #[.int .i64 t267, .int .i64 t268]] rfl (by (try simp only [List.map_toArray, List.map_cons, List.map_nil]); first | done | rfl | (simp only [List.length_drop, List.length_take]; rfl)) ?_; (with_reducible refine (tempo_Rate.calls kj29 _ _ t261 t267 t268 t298 t299 _ ?side1 ?side2 A64.out).mono ?_); (case side1 => repeat (first | exact (Kd.R_reads' HO_8.out).2.2 | (with_reducible refine Kd.C_alloc ?_ _) | (with_reducible refine Kd.C_drewN ?_ _) | (with_reducible refine Kd.C_drew ?_))); (case side2 => exact (Kd.R_reads' HO_8.out).2.1); rintro e w92 ⟨rfl, hb⟩; refine ⟨_, rfl, ?_⟩; have n0_ := Aside0.mk (Kd.R_below (by (with_reducible repeat (first | apply Kd.R_alloc | apply Kd.R_drewN | apply Kd.R_drew)); exact HO_8.out) hb); have n1_ := Aside0.mk (Kd.R_below (by (with_reducible repeat (first | apply Kd.R_alloc | apply Kd.R_drewN | apply Kd.R_drew)); exact HO285.out) hb); have n2_ := Aside0.mk (Kd.R_below (by (with_reducible repeat (first | apply Kd.R_alloc | apply Kd.R_drewN | apply Kd.R_drew)); exact HO295.out) hb); have n3_ := Aside0.mk (blk_below (g := gb266) (o := .cells #[.int .i64 t264, .int .i64 t265] 27 (0, 0)) (by (with_reducible repeat (first | refine blk_drewN ?_ _ | refine blk_drew ?_ | refine blk_alloc ?_ _)); exact BK266.out) hb); have n4_ := Aside0.mk (blk_below (g := gb269) (o := .cells #[.int .i64 t267, .int .i64 t268] 27 (0, 0)) (by (with_reducible repeat (first | refine blk_drewN ?_ _ | refine blk_drew ?_ | refine blk_alloc ?_ _)); exact BK269.out) hb); have n5_ := Aside0.mk (blk_below (g := gb272) (o := .cells #[.int .i64 t264, .int .i64 t265, .int .i64 x273002_29, .bool false] 36 (0, 0)) (by (with_reducible repeat (first | refine blk_drewN ?_ _ | refine blk_drew ?_ | refine blk_alloc ?_ _)); exact BK272.out) hb); have n6_ := Aside0.mk (below_step (by repeat (first | (with_reducible first | exact HB.out | apply below_alloc | apply pw_below_drewN | apply below_drew1 | refine below_set ?_ GE266.out | refine below_set ?_ GE269.out | refine below_set ?_ GE272.out) | exact HB.out)) hb); clear HO_8; clear HO285; clear HO295; clear BK266; clear BK269; clear BK272; clear HB; have HO_8 := n0_; have HO285 := n1_; have HO295 := n2_; have BK266 := n3_; have BK269 := n4_; have BK272 := n5_; have HB := n6_; clear n0_ n1_ n2_ n3_ n4_ n5_ n6_; (try clear hb); (try clear hb2); (try clear hk); (try clear hi); have hcz93_0 : w92.cell? ⟨gb269, 0, none⟩ = some (.int .i64 t267) := (blk_cell BK269.out 0).trans rfl; have hcz93_1 : w92.cell? ⟨gb269, 1, none⟩ = some (.int .i64 t268) := (blk_cell BK269.out 1).trans rfl; have hfz93_0 := blk_frozen BK269.out 0; have hfz93_1 := blk_frozen BK269.out 1) | ((with_reducible refine gate_callee (f := 17) rfl ?_); refine goesL_ (some 100) rfl rfl Try.func17 (by kernel_rfl) rfl #[.slice Ao87 y293.length co87, .agg #[.int .i64 t267, .int .i64 t268]] rfl (by (try simp only [List.map_toArray, List.map_cons, List.map_nil]); first | done | rfl | (simp only [List.length_drop, List.length_take]; rfl)) ?_; (with_reducible refine (tempo_Rate.calls kj29 _ _ y293 t267 t268 t300 t301 _ ?side1 ?side2 A65.out).mono ?_); (case side1 => repeat (first | exact (Kd.R_reads' HO295.out).2.2 | (with_reducible refine Kd.C_alloc ?_ _) | (with_reducible refine Kd.C_drewN ?_ _) | (with_reducible refine Kd.C_drew ?_))); (case side2 => exact (Kd.R_reads' HO295.out).2.1); rintro e w94 ⟨rfl, hb⟩; refine ⟨_, rfl, ?_⟩; have n0_ := Aside0.mk (Kd.R_below (by (with_reducible repeat (first | apply Kd.R_alloc | apply Kd.R_drewN | apply Kd.R_drew)); exact HO_8.out) hb); have n1_ := Aside0.mk (Kd.R_below (by (with_reducible repeat (first | apply Kd.R_alloc | apply Kd.R_drewN | apply Kd.R_drew)); exact HO285.out) hb); have n2_ := Aside0.mk (Kd.R_below (by (with_reducible repeat (first | apply Kd.R_alloc | apply Kd.R_drewN | apply Kd.R_drew)); exact HO295.out) hb); have n3_ := Aside0.mk (blk_below (g := gb266) (o := .cells #[.int .i64 t264, .int .i64 t265] 27 (0, 0)) (by (with_reducible repeat (first | refine blk_drewN ?_ _ | refine blk_drew ?_ | refine blk_alloc ?_ _)); exact BK266.out) hb); have n4_ := Aside0.mk (blk_below (g := gb269) (o := .cells #[.int .i64 t267, .int .i64 t268] 27 (0, 0)) (by (with_reducible repeat (first | refine blk_drewN ?_ _ | refine blk_drew ?_ | refine blk_alloc ?_ _)); exact BK269.out) hb); have n5_ := Aside0.mk (blk_below (g := gb272) (o := .cells #[.int .i64 t264, .int .i64 t265, .int .i64 x273002_29, .bool false] 36 (0, 0)) (by (with_reducible repeat (first | refine blk_drewN ?_ _ | refine blk_drew ?_ | refine blk_alloc ?_ _)); exact BK272.out) hb); have n6_ := Aside0.mk (below_step (by repeat (first | (with_reducible first | exact HB.out | apply below_alloc | apply pw_below_drewN | apply below_drew1 | refine below_set ?_ GE266.out | refine below_set ?_ GE269.out | refine below_set ?_ GE272.out) | exact HB.out)) hb); clear HO_8; clear HO285; clear HO295; clear BK266; clear BK269; clear BK272; clear HB; have HO_8 := n0_; have HO285 := n1_; have HO295 := n2_; have BK266 := n3_; have BK269 := n4_; have BK272 := n5_; have HB := n6_; clear n0_ n1_ n2_ n3_ n4_ n5_ n6_; (try clear hb); (try clear hb2); (try clear hk); (try clear hi); have hcz95_0 : w94.cell? ⟨gb269, 0, none⟩ = some (.int .i64 t267) := (blk_cell BK269.out 0).trans rfl; have hcz95_1 : w94.cell? ⟨gb269, 1, none⟩ = some (.int .i64 t268) := (blk_cell BK269.out 1).trans rfl; have hfz95_0 := blk_frozen BK269.out 0; have hfz95_1 := blk_frozen BK269.out 1) | ((with_reducible refine gate_callee (f := 15) rfl ?_); refine goesL_ (some 106) rfl rfl Try.func15 (by kernel_rfl) rfl #[.slice Ao78 t261.length co78, .agg #[.int .i64 t267, .int .i64 t268]] rfl (by (try simp only [List.map_toArray, List.map_cons, List.map_nil]); first | done | rfl | (simp only [List.length_drop, List.length_take]; rfl)) ?_; (with_reducible refine (tempo_Micros.calls kj29 _ _ t261 t267 t268 t302 t303 _ ?side1 ?side2 A66.out).mono ?_); (case side1 => repeat (first | exact (Kd.R_reads' HO_8.out).2.2 | (with_reducible refine Kd.C_alloc ?_ _) | (with_reducible refine Kd.C_drewN ?_ _) | (with_reducible refine Kd.C_drew ?_))); (case side2 => exact (Kd.R_reads' HO_8.out).2.1); rintro e w96 ⟨rfl, hb⟩; refine ⟨_, rfl, ?_⟩; have n0_ := Aside0.mk (Kd.R_below (by (with_reducible repeat (first | apply Kd.R_alloc | apply Kd.R_drewN | apply Kd.R_drew)); exact HO_8.out) hb); have n1_ := Aside0.mk (Kd.R_below (by (with_reducible repeat (first | apply Kd.R_alloc | apply Kd.R_drewN | apply Kd.R_drew)); exact HO285.out) hb); have n2_ := Aside0.mk (Kd.R_below (by (with_reducible repeat (first | apply Kd.R_alloc | apply Kd.R_drewN | apply Kd.R_drew)); exact HO295.out) hb); have n3_ := Aside0.mk (blk_below (g := gb266) (o := .cells #[.int .i64 t264, .int .i64 t265] 27 (0, 0)) (by (with_reducible repeat (first | refine blk_drewN ?_ _ | refine blk_drew ?_ | refine blk_alloc ?_ _)); exact BK266.out) hb); have n4_ := Aside0.mk (blk_below (g := gb269) (o := .cells #[.int .i64 t267, .int .i64 t268] 27 (0, 0)) (by (with_reducible repeat (first | refine blk_drewN ?_ _ | refine blk_drew ?_ | refine blk_alloc ?_ _)); exact BK269.out) hb); have n5_ := Aside0.mk (blk_below (g := gb272) (o := .cells #[.int .i64 t264, .int .i64 t265, .int .i64 x273002_29, .bool false] 36 (0, 0)) (by (with_reducible repeat (first | refine blk_drewN ?_ _ | refine blk_drew ?_ | refine blk_alloc ?_ _)); exact BK272.out) hb); have n6_ := Aside0.mk (below_step (by repeat (first | (with_reducible first | exact HB.out | apply below_alloc | apply pw_below_drewN | apply below_drew1 | refine below_set ?_ GE266.out | refine below_set ?_ GE269.out | refine below_set ?_ GE272.out) | exact HB.out)) hb); clear HO_8; clear HO285; clear HO295; clear BK266; clear BK269; clear BK272; clear HB; have HO_8 := n0_; have HO285 := n1_; have HO295 := n2_; have BK266 := n3_; have BK269 := n4_; have BK272 := n5_; have HB := n6_; clear n0_ n1_ n2_ n3_ n4_ n5_ n6_; (try clear hb); (try clear hb2); (try clear hk); (try clear hi); have hcz97_0 : w96.cell? ⟨gb269, 0, none⟩ = some (.int .i64 t267) := (blk_cell BK269.out 0).trans rfl; have hcz97_1 : w96.cell? ⟨gb269, 1, none⟩ = some (.int .i64 t268) := (blk_cell BK269.out 1).trans rfl; have hfz97_0 := blk_frozen BK269.out 0; have hfz97_1 := blk_frozen BK269.out 1) | ((with_reducible refine gate_callee (f := 15) rfl ?_); refine goesL_ (some 112) rfl rfl Try.func15 (by kernel_rfl) rfl #[.slice Ao87 y293.length co87, .agg #[.int .i64 t267, .int .i64 t268]] rfl (by (try simp only [List.map_toArray, List.map_cons, List.map_nil]); first | done | rfl | (simp only [List.length_drop, List.length_take]; rfl)) ?_; (with_reducible refine (tempo_Micros.calls kj29 _ _ y293 t267 t268 t304 t305 _ ?side1 ?side2 A67.out).mono ?_); (case side1 => repeat (first | exact (Kd.R_reads' HO295.out).2.2 | (with_reducible refine Kd.C_alloc ?_ _) | (with_reducible refine Kd.C_drewN ?_ _) | (with_reducible refine Kd.C_drew ?_))); (case side2 => exact (Kd.R_reads' HO295.out).2.1); rintro e w98 ⟨rfl, hb⟩; refine ⟨_, rfl, ?_⟩; have n0_ := Aside0.mk (Kd.R_below (by (with_reducible repeat (first | apply Kd.R_alloc | apply Kd.R_drewN | apply Kd.R_drew)); exact HO_8.out) hb); have n1_ := Aside0.mk (Kd.R_below (by (with_reducible repeat (first | apply Kd.R_alloc | apply Kd.R_drewN | apply Kd.R_drew)); exact HO285.out) hb); have n2_ := Aside0.mk (Kd.R_below (by (with_reducible repeat (first | apply Kd.R_alloc | apply Kd.R_drewN | apply Kd.R_drew)); exact HO295.out) hb); have n3_ := Aside0.mk (blk_below (g := gb266) (o := .cells #[.int .i64 t264, .int .i64 t265] 27 (0, 0)) (by (with_reducible repeat (first | refine blk_drewN ?_ _ | refine blk_drew ?_ | refine blk_alloc ?_ _)); exact BK266.out) hb); have n4_ := Aside0.mk (blk_below (g := gb269) (o := .cells #[.int .i64 t267, .int .i64 t268] 27 (0, 0)) (by (with_reducible repeat (first | refine blk_drewN ?_ _ | refine blk_drew ?_ | refine blk_alloc ?_ _)); exact BK269.out) hb); have n5_ := Aside0.mk (blk_below (g := gb272) (o := .cells #[.int .i64 t264, .int .i64 t265, .int .i64 x273002_29, .bool false] 36 (0, 0)) (by (with_reducible repeat (first | refine blk_drewN ?_ _ | refine blk_drew ?_ | refine blk_alloc ?_ _)); exact BK272.out) hb); have n6_ := Aside0.mk (below_step (by repeat (first | (with_reducible first | exact HB.out | apply below_alloc | apply pw_below_drewN | apply below_drew1 | refine below_set ?_ GE266.out | refine below_set ?_ GE269.out | refine below_set ?_ GE272.out) | exact HB.out)) hb); clear HO_8; clear HO285; clear HO295; clear BK266; clear BK269; clear BK272; clear HB; have HO_8 := n0_; have HO285 := n1_; have HO295 := n2_; have BK266 := n3_; have BK269 := n4_; have BK272 := n5_; have HB := n6_; clear n0_ n1_ n2_ n3_ n4_ n5_ n6_; (try clear hb); (try clear hb2); (try clear hk); (try clear hi)))
                                    go_ret
                                    exact ⟨by first | rfl | (simp [errW_none, errW_some] <;> rfl) | (simp [*, errW_none, errW_some] <;> rfl), by repeat (first | (with_reducible first | exact HB.out | apply below_alloc | apply pw_below_drewN | apply below_drew1 | refine below_set ?_ GE266.out | refine below_set ?_ GE269.out | refine below_set ?_ GE272.out) | exact HB.out)⟩
                                  · rw [if_neg c75] at H
                                    have c75b0 : (t302 == t304) = false := beq_eq_false_iff_ne.mpr c75
                                    have c75b1 : (t302 != t304) = true := bne_iff_ne.mpr c75
                                    obtain rfl := Option.some.inj H
                                    try go_wp2
                                    have n0_ := Aside0.mk (Kd.R_drew HO_8.out)
                                    have n1_ := Aside0.mk (blk_drew BK266.out)
                                    have n2_ := Aside0.mk (blk_drew BK269.out)
                                    have n3_ := Aside0.mk (blk_drew BK272.out)
                                    have n4_ := Aside0.mk (below_drew1 HB.out)
                                    clear HO_8
                                    clear BK266
                                    clear BK269
                                    clear BK272
                                    clear HB
                                    have HO_8 := n0_
                                    have BK266 := n1_
                                    have BK269 := n2_
                                    have BK272 := n3_
                                    have HB := n4_
                                    clear n0_ n1_ n2_ n3_ n4_
                                    obtain ⟨Ao101, co101, eo101⟩ := Kd.R_slice HO_8.out
                                    (first | subst eo101 | (injection eo101 with f1_ f2_ f3_; have f4_ := f1_.symm; have f5_ := f3_.symm; clear f1_ f2_ f3_; subst f4_; subst f5_))
                                    have q100 : (x11_7 : Int) ≤ ((t261.length : Int) : Int) := of_decide_eq_true (by first | (with_reducible assumption) | assumption)
                                    obtain ⟨i0100, hi0100, _, hsz100, _⟩ := info_parts info36
                                    have hroom100 : t261.length ≤ co101 := (Kd.R_reads' HO_8.out).2.1
                                    have hC100 : Kd.C k36 _ Ao101 t261.length t261 := (Kd.R_reads' HO_8.out).2.2
                                    have hcut100 := cut_to (P := Try.prog) 22 36 .i64 Try.underlying22 hi0100 Ao101 t261.length co101 x11_7 (of_decide_eq_true (by first | (with_reducible assumption) | assumption)) q100 hroom100
                                    have hr100 := Kd.C_take (m := (x11_7 : Int).toNat) hC100 (by omega)
                                    have hy100 : y276.length = (x11_7 : Int).toNat := (by rw [Ny276.out, List.length_take]; omega)
                                    rw [← Ny276.out] at hr100
                                    rw [← hy100] at hcut100
                                    have HR279 := Aside0.mk hr100
                                    have HC279 := Aside0.mk (show y276.length ≤ co101 from by omega)
                                    clear hr100 hC100 hroom100 hi0100 hsz100
                                    have KY100 := Aside0.mk hy100
                                    clear hy100
                                    have KL100 := Aside0.mk (show (x11_7 : Int).toNat ≤ t261.length from by omega)
                                    replace q100 := eq_true q100
                                    have q102 : (x11_7 : Int) ≤ ((t261.length : Int) : Int) := of_decide_eq_true (by first | (with_reducible assumption) | assumption)
                                    obtain ⟨i0102, hi0102, _, hsz102, _⟩ := info_parts info36
                                    have hroom102 : t261.length ≤ co101 := (Kd.R_reads' HO_8.out).2.1
                                    have hC102 : Kd.C k36 _ Ao101 t261.length t261 := (Kd.R_reads' HO_8.out).2.2
                                    have q0102 : (0 : Int) ≤ (x11_7 : Int) := of_decide_eq_true (by first | (with_reducible assumption) | assumption)
                                    have hcut102 := cut_from (P := Try.prog) 22 36 .i64 Try.underlying22 hi0102 4 hsz102 Ao101 t261.length co101 x11_7 q0102 q102
                                    have hr102 := Kd.C_drop (m := (x11_7 : Int).toNat) (c := co101) hC102 (by omega) hroom102
                                    obtain ⟨A102, hA102⟩ : ∃ A1, A1 = (if co101 = (x11_7 : Int).toNat then Ao101 else (Ao101 : Option Addr).map (·.add ((x11_7 : Int).toNat * 4))) := ⟨_, rfl⟩
                                    obtain ⟨c102, hc102⟩ : ∃ c1, c1 = co101 - (x11_7 : Int).toNat := ⟨_, rfl⟩
                                    have hy102 : y289.length = t261.length - (x11_7 : Int).toNat := (by rw [Ny289.out, List.length_drop] <;> omega)
                                    rw [show (t261).drop (x11_7 : Int).toNat = y289 from Ny289.out.symm] at hr102
                                    replace hr102 : Kd.C k36 _ A102 y289.length y289 := (by rw [hA102]; exact hr102)
                                    rw [← hy102, ← hA102, ← hc102] at hcut102
                                    have HR292 := Aside0.mk hr102
                                    have HC292 := Aside0.mk (show y289.length ≤ c102 from by rw [hy102, hc102]; exact Nat.sub_le_sub_right hroom102 _)
                                    clear hr102 hC102 hroom102 hi0102 hsz102 hc102
                                    have KY102 := Aside0.mk hy102
                                    have KA102 := Aside0.mk hA102
                                    clear hy102 hA102
                                    have KL102 := Aside0.mk (show (x11_7 : Int).toNat ≤ t261.length from by omega)
                                    replace q102 := eq_true q102
                                    refine start_ (n := 12) (S := fun w' => w'.cell? ⟨gb272, 0, none⟩ = some (.int .i64 t264) ∧ w'.cell? ⟨gb272, 1, none⟩ = some (.int .i64 t265) ∧ w'.cell? ⟨gb272, 2, none⟩ = some (.int .i64 x273002_29) ∧ w'.cell? ⟨gb272, 3, none⟩ = some (.bool false)) (ds := []) #[false, false, false, false, false, false, false, false, false, false, false, false] (by kernel_rfl) rfl rfl ⟨(blk_cell BK272.out 0).trans rfl, (blk_cell BK272.out 1).trans rfl, (blk_cell BK272.out 2).trans rfl, (blk_cell BK272.out 3).trans rfl⟩ (fun hHeld => ?_); refine with_tabW partitalaw11_TempoSplit.tab13 partitalaw11_TempoSplit.bits13 (fun HT_ HW_ => ?_)
                                    generalize wc.drew = w99 at HO_8 BK266 BK269 BK272 HB HR279 HR292 hHeld ⊢
                                    refine pure_ (i := 0) (N := some 75) (v := ?_) (a' := ?_) #[true, false, false, false, false, false, false, false, false, false, false, false] rfl rfl (any_of HT_.out (by kernel_rfl)) (fun _ _ _ h => h) (Or.inl ⟨by rfl, ?_⟩) ?_ ?_
                                    rotate_left
                                    · intro w'
                                      go_simp
                                      with_reducible rfl
                                    rotate_left
                                    · simp only [Act.put, List.setIfInBounds_toArray, List.set_cons_zero, List.set_cons_succ, i64_w, i32_w]
                                      rfl
                                    refine pure_ (i := 1) (N := some 76) (v := ?_) (a' := ?_) #[true, true, false, false, false, false, false, false, false, false, false, false] rfl rfl (any_of HT_.out (by kernel_rfl)) (fun _ _ _ h => h) (Or.inl ⟨by rfl, ?_⟩) ?_ ?_
                                    rotate_left
                                    · intro w'
                                      go_simp
                                      with_reducible rfl
                                    rotate_left
                                    · simp only [Act.put, List.setIfInBounds_toArray, List.set_cons_zero, List.set_cons_succ, i64_w, i32_w]
                                      rfl
                                    refine pure_ (i := 2) (N := some 77) (v := ?_) (a' := ?_) #[true, true, true, false, false, false, false, false, false, false, false, false] rfl rfl (any_of HT_.out (by kernel_rfl)) (fun _ _ _ h => h) (Or.inl ⟨by rfl, ?_⟩) ?_ ?_
                                    rotate_left
                                    · intro w'
                                      go_simp
                                      with_reducible rfl
                                    rotate_left
                                    · simp only [Act.put, List.setIfInBounds_toArray, List.set_cons_zero, List.set_cons_succ, i64_w, i32_w]
                                      rfl
                                    refine pure_ (i := 7) (N := some 82) (v := ?_) (a' := ?_) #[true, true, true, false, false, false, false, true, false, false, false, false] rfl rfl (any_of HT_.out (by kernel_rfl)) (fun _ _ _ h => h) (Or.inl ⟨by rfl, ?_⟩) ?_ ?_
                                    rotate_left
                                    · intro w'
                                      go_simp
                                      with_reducible rfl
                                    rotate_left
                                    · simp only [Act.put, List.setIfInBounds_toArray, List.set_cons_zero, List.set_cons_succ, i64_w, i32_w]
                                      rfl
                                    refine pure_ (i := 8) (N := some 83) (v := ?_) (a' := ?_) #[true, true, true, false, false, false, false, true, true, false, false, false] rfl rfl (any_of HT_.out (by kernel_rfl)) (fun _ _ _ h => h) (Or.inl ⟨by rfl, ?_⟩) ?_ ?_
                                    rotate_left
                                    · intro w'
                                      go_simp
                                      with_reducible rfl
                                    rotate_left
                                    · simp only [Act.put, List.setIfInBounds_toArray, List.set_cons_zero, List.set_cons_succ, i64_w, i32_w]
                                      rfl
                                    refine pure_ (i := 9) (N := some 84) (v := ?_) (a' := ?_) #[true, true, true, false, false, false, false, true, true, true, false, false] rfl rfl (any_of HT_.out (by kernel_rfl)) (fun _ _ _ h => h) (Or.inl ⟨by rfl, ?_⟩) ?_ ?_
                                    rotate_left
                                    · intro w'
                                      go_simp
                                      with_reducible rfl
                                    rotate_left
                                    · simp only [Act.put, List.setIfInBounds_toArray, List.set_cons_zero, List.set_cons_succ, i64_w, i32_w]
                                      rfl
                                    refine take_ (i := 4) (N := some 79) (v := ?_) (a' := ?_) #[true, true, true, false, true, false, false, true, true, true, false, false] rfl rfl (take_ofW HT_.out HW_.out (by kernel_rfl)) (fun _ _ _ h => h) (Or.inl ⟨by rfl, ?_⟩) hHeld ?_ ?_
                                    rotate_left
                                    · rintro w' ⟨s0, s1, s2, s3⟩
                                      go_simp
                                      with_reducible rfl
                                    rotate_left
                                    · simp only [Act.put, List.setIfInBounds_toArray, List.set_cons_zero, List.set_cons_succ, i64_w, i32_w]
                                      rfl
                                    refine join_ (σ := Value × Value) 3 #[true, true, true, true, true, true, false, true, true, true, false, false] (fun s_ => [(78, s_.1), (80, s_.2)]) (fun s_ w' => (w'.cell? ⟨gb272, 0, none⟩ = some (.int .i64 t264) ∧ w'.cell? ⟨gb272, 1, none⟩ = some (.int .i64 t265) ∧ w'.cell? ⟨gb272, 2, none⟩ = some (.int .i64 x273002_29) ∧ w'.cell? ⟨gb272, 3, none⟩ = some (.bool false)) ∧ (Kd.R k36 36 w' w.heap.size (fun k_ => some k_ ≠ (s_.2 : Value).ownBlock ∧ some k_ ≠ (.slice Ao101 t261.length co101 : Value).ownBlock ∧ k_ ≠ gb272) s_.1 y280) ∧ (Kd.R k36 36 w' w.heap.size (fun k_ => some k_ ≠ (s_.1 : Value).ownBlock ∧ some k_ ≠ (.slice Ao101 t261.length co101 : Value).ownBlock ∧ k_ ≠ gb272) s_.2 y283) ∧ (Kd.R k36 36 w' w.heap.size (fun k_ => some k_ ≠ (s_.1 : Value).ownBlock ∧ some k_ ≠ (s_.2 : Value).ownBlock ∧ k_ ≠ gb272) (.slice Ao101 t261.length co101) t261) ∧ (w'.heap[gb266]? = some (.cells #[.int .i64 t264, .int .i64 t265] 27 (0, 0))) ∧ (w'.heap[gb269]? = some (.cells #[.int .i64 t267, .int .i64 t268] 27 (0, 0))) ∧ (w'.heap[gb272]? = some (.cells #[.int .i64 t264, .int .i64 t265, .int .i64 x273002_29, .bool false] 36 (0, 0))) ∧ (Below w.heap.size w w')) ?_ ?_
                                    rotate_left
                                    · intro hCont
                                      refine two_ (i := 3) (j := 5) (Ni := some 78) (Nj := some 80) #[true, true, true, true, true, false, false, true, true, true, false, false] #[true, true, true, false, true, true, false, true, true, true, false, false] rfl rfl rfl rfl (two_of HT_.out (by kernel_rfl)) (by decide) (by decide) (fun K hK => ?_) (fun K hK => ?_)
                                      · skip
                                        refine Kd.R_append_rows_step k36 (w0 := w) w.heap.size (by rfl) (.const (.slice none 0 0)) (.tmp 77) 22 36 (.agg #[(.int .i64 0), (.int .i64 0), (.int .i64 0), (.bool false)]) 32 rfl Try.underlying22 info36 rfl (by decide) (by omega) (.slice none 0 0) ([] : List (S36)) y276 _ _ _ (fun k_ => some k_ ≠ (.slice Ao101 t261.length co101 : Value).ownBlock ∧ k_ ≠ gb272) (fun _ => False) rfl rfl ?aO ?aR (fun _ _ h => h) (fun _ h => h.elim) ?aF ?aB ?aS ?aL ?_
                                        (case aR => repeat (first | exact (by repeat (first | (with_reducible exact HR279.out) | (with_reducible refine Kd.C_alloc ?_ _) | (with_reducible refine Kd.C_drewN ?_ _) | (with_reducible refine Kd.C_drew ?_) | exact HR279.out)) | (with_reducible refine Kd.C_alloc ?_ _) | (with_reducible refine Kd.C_drewN ?_ _) | (with_reducible refine Kd.C_drew ?_)))
                                        (case aB => exact (by repeat (first | (with_reducible first | exact HB.out | apply below_alloc | apply pw_below_drewN | apply below_drew1 | refine below_set ?_ GE266.out | refine below_set ?_ GE269.out | refine below_set ?_ GE272.out) | exact HB.out)))
                                        (case aF => exact (fun k_ hk => ⟨Kd.fresh' (Kd.R_lt (by (with_reducible repeat (first | apply Kd.R_alloc | apply Kd.R_drewN | apply Kd.R_drew)); exact HO_8.out)) k_ hk, Kd.freshB (g := gb272) (o := .cells #[.int .i64 t264, .int .i64 t265, .int .i64 x273002_29, .bool false] 36 (0, 0)) (by (with_reducible repeat (first | refine blk_drewN ?_ _ | refine blk_drew ?_ | refine blk_alloc ?_ _)); exact BK272.out) k_ hk⟩))
                                        (case aO => exact ((Kd.R_nil _ _ _ _ (fun k_ => some k_ ≠ (.slice Ao101 t261.length co101 : Value).ownBlock ∧ k_ ≠ gb272))))
                                        (case aS => exact (below_size (by repeat (first | (with_reducible first | exact HB.out | apply below_alloc | apply pw_below_drewN | apply below_drew1 | refine below_set ?_ GE266.out | refine below_set ?_ GE269.out | refine below_set ?_ GE272.out) | exact HB.out))))
                                        (case aL => have := LMc58.out; omega)
                                        intro v281 w103 ho hb hg hat
                                        rw [← Ny280.out] at ho
                                        have n0_ := Aside0.mk (Kd.R_after (Kd.R_apart_nil (by (with_reducible repeat (first | apply Kd.R_alloc | apply Kd.R_drewN | apply Kd.R_drew)); exact HO_8.out)) hg hat)
                                        have n1_ := Aside0.mk (blk_grown (g := gb266) (o := .cells #[.int .i64 t264, .int .i64 t265] 27 (0, 0)) (by (with_reducible repeat (first | refine blk_drewN ?_ _ | refine blk_drew ?_ | refine blk_alloc ?_ _)); exact BK266.out) hg (by simp [Value.ownBlock]))
                                        have n2_ := Aside0.mk (blk_grown (g := gb269) (o := .cells #[.int .i64 t267, .int .i64 t268] 27 (0, 0)) (by (with_reducible repeat (first | refine blk_drewN ?_ _ | refine blk_drew ?_ | refine blk_alloc ?_ _)); exact BK269.out) hg (by simp [Value.ownBlock]))
                                        have n3_ := Aside0.mk (blk_grown (g := gb272) (o := .cells #[.int .i64 t264, .int .i64 t265, .int .i64 x273002_29, .bool false] 36 (0, 0)) (by (with_reducible repeat (first | refine blk_drewN ?_ _ | refine blk_drew ?_ | refine blk_alloc ?_ _)); exact BK272.out) hg (by simp [Value.ownBlock]))
                                        have n4_ := Aside0.mk (hb)
                                        have n5_ := Aside0.mk ((show Kd.C k36 w103 Ao101 y276.length y276 from by rw [Ny276.out]; exact Kd.C_take (m := (x11_7 : Int).toNat) ((Kd.R_reads' (Kd.R_after (Kd.R_apart_nil (by (with_reducible repeat (first | apply Kd.R_alloc | apply Kd.R_drewN | apply Kd.R_drew)); exact HO_8.out)) hg hat)).2.2) KL100.out))
                                        have n6_ := Aside0.mk ((show Kd.C k36 w103 A102 y289.length y289 from by rw [Ny289.out, KA102.out]; exact Kd.C_drop (m := (x11_7 : Int).toNat) (c := co101) ((Kd.R_reads' (Kd.R_after (Kd.R_apart_nil (by (with_reducible repeat (first | apply Kd.R_alloc | apply Kd.R_drewN | apply Kd.R_drew)); exact HO_8.out)) hg hat)).2.2) KL102.out ((Kd.R_reads' (Kd.R_after (Kd.R_apart_nil (by (with_reducible repeat (first | apply Kd.R_alloc | apply Kd.R_drewN | apply Kd.R_drew)); exact HO_8.out)) hg hat)).2.1)))
                                        have n7_ := Aside0.mk (ho)
                                        clear HO_8
                                        clear BK266
                                        clear BK269
                                        clear BK272
                                        clear HB
                                        clear HR279
                                        clear HR292
                                        have HO_8 := n0_
                                        have BK266 := n1_
                                        have BK269 := n2_
                                        have BK272 := n3_
                                        have HB := n4_
                                        have HR279 := n5_
                                        have HR292 := n6_
                                        have HO282 := n7_
                                        clear n0_ n1_ n2_ n3_ n4_ n5_ n6_ n7_
                                        clear ho hb hg hat
                                        refine hK.out _ _ ⟨(blk_cell BK272.out 0).trans rfl, (blk_cell BK272.out 1).trans rfl, (blk_cell BK272.out 2).trans rfl, (blk_cell BK272.out 3).trans rfl⟩ (fun hHeld => ?_)
                                        clear hK K
                                        refine norm_ (a' := ?_) ?_ ?_
                                        rotate_left
                                        · show Act.put _ (some 78) _ = _
                                          simp only [Act.put, List.setIfInBounds_toArray, List.set_cons_zero, List.set_cons_succ, i64_w, i32_w]
                                          rfl
                                        refine one_ (i := 5) (N := some 80) #[true, true, true, true, true, true, false, true, true, true, false, false] rfl rfl (one_of HT_.out (by kernel_rfl)) (by decide) (fun K hK => ?_)
                                        refine Kd.R_lit_step k36 _ 36 ?hg (N := 80) ?hd (xs := ([(⟨(⟨t264, t265⟩ : S27), x273002_29, false⟩ : S36)] : List (S36))) (inner := [.int .i64 t264, .int .i64 t265, .int .i64 x273002_29, .bool false]) (ok := fun _ => True) (okp := fun _ => True) ?hr ?hp (fun _ hk => hk) trivial (Below.refl _ _) (Nat.le_refl _) (by simp) ?_; (case hd => rfl); (case hg => rfl); (case hr => first | (go_simp; done) | (go_simp; rfl)); (case hp => exact (Reps.c4 (show Kd.M k36 _ _ _ (⟨(⟨t264, t265⟩ : S27), x273002_29, false⟩ : S36) [.int .i64 t264, .int .i64 t265, .int .i64 x273002_29, .bool false] from (k36_mkM _ _ _ (⟨(⟨t264, t265⟩ : S27), x273002_29, false⟩ : S36) )) (Reps.none _ _)))
                                        intro v284 w104 ho105 hb hg_ hnew_
                                        clear hg_ hnew_
                                        (first | rw [← Ny283.out] at ho105 | (simp only [Int.reduceToNat] at ho105; rw [← Ny283.out] at ho105))
                                        have n0_ := Aside0.mk (Kd.R_elder' (by (with_reducible repeat (first | apply Kd.R_alloc | apply Kd.R_drewN | apply Kd.R_drew)); exact HO_8.out) (Kd.R_base ho105) hb)
                                        have n1_ := Aside0.mk (Kd.R_elder' (by (with_reducible repeat (first | apply Kd.R_alloc | apply Kd.R_drewN | apply Kd.R_drew)); exact HO282.out) (Kd.R_base ho105) hb)
                                        have n2_ := Aside0.mk (Kd.R_lower (Kd.R_newB (Kd.R_new' (Kd.R_new' ho105 (Kd.R_lt (by (with_reducible repeat (first | apply Kd.R_alloc | apply Kd.R_drewN | apply Kd.R_drew)); exact HO_8.out))) (Kd.R_lt (by (with_reducible repeat (first | apply Kd.R_alloc | apply Kd.R_drewN | apply Kd.R_drew)); exact HO282.out))) (g := gb272) (o := .cells #[.int .i64 t264, .int .i64 t265, .int .i64 x273002_29, .bool false] 36 (0, 0)) (by (with_reducible repeat (first | refine blk_drewN ?_ _ | refine blk_drew ?_ | refine blk_alloc ?_ _)); exact BK272.out)) (below_size (by repeat (first | (with_reducible first | exact HB.out | apply below_alloc | apply pw_below_drewN | apply below_drew1 | refine below_set ?_ GE266.out | refine below_set ?_ GE269.out | refine below_set ?_ GE272.out) | exact HB.out))))
                                        have n3_ := Aside0.mk (blk_below (g := gb266) (o := .cells #[.int .i64 t264, .int .i64 t265] 27 (0, 0)) (by (with_reducible repeat (first | refine blk_drewN ?_ _ | refine blk_drew ?_ | refine blk_alloc ?_ _)); exact BK266.out) hb)
                                        have n4_ := Aside0.mk (blk_below (g := gb269) (o := .cells #[.int .i64 t267, .int .i64 t268] 27 (0, 0)) (by (with_reducible repeat (first | refine blk_drewN ?_ _ | refine blk_drew ?_ | refine blk_alloc ?_ _)); exact BK269.out) hb)
                                        have n5_ := Aside0.mk (blk_below (g := gb272) (o := .cells #[.int .i64 t264, .int .i64 t265, .int .i64 x273002_29, .bool false] 36 (0, 0)) (by (with_reducible repeat (first | refine blk_drewN ?_ _ | refine blk_drew ?_ | refine blk_alloc ?_ _)); exact BK272.out) hb)
                                        have n6_ := Aside0.mk (Kd.C_below (by repeat (first | (with_reducible exact HR279.out) | (with_reducible refine Kd.C_alloc ?_ _) | (with_reducible refine Kd.C_drewN ?_ _) | (with_reducible refine Kd.C_drew ?_) | exact HR279.out)) hb)
                                        have n7_ := Aside0.mk (Kd.C_below (by repeat (first | (with_reducible exact HR292.out) | (with_reducible refine Kd.C_alloc ?_ _) | (with_reducible refine Kd.C_drewN ?_ _) | (with_reducible refine Kd.C_drew ?_) | exact HR292.out)) hb)
                                        have n8_ := Aside0.mk (below_step (by repeat (first | (with_reducible first | exact HB.out | apply below_alloc | apply pw_below_drewN | apply below_drew1 | refine below_set ?_ GE266.out | refine below_set ?_ GE269.out | refine below_set ?_ GE272.out) | exact HB.out)) hb)
                                        clear HO_8
                                        clear HO282
                                        clear BK266
                                        clear BK269
                                        clear BK272
                                        clear HR279
                                        clear HR292
                                        clear HB
                                        have HO_8 := n0_
                                        have HO282 := n1_
                                        have HO285 := n2_
                                        have BK266 := n3_
                                        have BK269 := n4_
                                        have BK272 := n5_
                                        have HR279 := n6_
                                        have HR292 := n7_
                                        have HB := n8_
                                        clear n0_ n1_ n2_ n3_ n4_ n5_ n6_ n7_ n8_
                                        clear hb ho105
                                        refine hK.out _ _ ⟨(blk_cell BK272.out 0).trans rfl, (blk_cell BK272.out 1).trans rfl, (blk_cell BK272.out 2).trans rfl, (blk_cell BK272.out 3).trans rfl⟩ (fun hHeld => ?_)
                                        clear hK K
                                        refine norm_ (a' := ?_) ?_ ?_
                                        rotate_left
                                        · show Act.put _ (some 80) _ = _
                                          simp only [Act.put, List.setIfInBounds_toArray, List.set_cons_zero, List.set_cons_succ, i64_w, i32_w]
                                          rfl
                                        exact norm_ (by simp only [putAll, Act.put, List.setIfInBounds_toArray, List.set_cons_zero, List.set_cons_succ]) (hCont (v281, v284) _ ⟨hHeld, (by (with_reducible repeat (first | apply Kd.R_alloc | apply Kd.R_drewN | apply Kd.R_drew)); exact Kd.R_mono HO282.out (fun _ hk => ⟨hk.2, ⟨hk.1.1, hk.1.2⟩⟩)), (by (with_reducible repeat (first | apply Kd.R_alloc | apply Kd.R_drewN | apply Kd.R_drew)); exact Kd.R_mono HO285.out (fun _ hk => ⟨hk.1.2, ⟨hk.1.1.2, hk.2⟩⟩)), (by (with_reducible repeat (first | apply Kd.R_alloc | apply Kd.R_drewN | apply Kd.R_drew)); exact Kd.R_mono HO_8.out (fun _ hk => ⟨hk.1.2, ⟨hk.2, hk.1.1⟩⟩)), (by (with_reducible repeat (first | refine blk_drewN ?_ _ | refine blk_drew ?_ | refine blk_alloc ?_ _)); exact BK266.out), (by (with_reducible repeat (first | refine blk_drewN ?_ _ | refine blk_drew ?_ | refine blk_alloc ?_ _)); exact BK269.out), (by (with_reducible repeat (first | refine blk_drewN ?_ _ | refine blk_drew ?_ | refine blk_alloc ?_ _)); exact BK272.out), (by repeat (first | (with_reducible first | exact HB.out | apply below_alloc | apply pw_below_drewN | apply below_drew1 | refine below_set ?_ GE266.out | refine below_set ?_ GE269.out | refine below_set ?_ GE272.out) | exact HB.out))⟩)
                                      · skip
                                        refine Kd.R_lit_step k36 _ 36 ?hg (N := 80) ?hd (xs := ([(⟨(⟨t264, t265⟩ : S27), x273002_29, false⟩ : S36)] : List (S36))) (inner := [.int .i64 t264, .int .i64 t265, .int .i64 x273002_29, .bool false]) (ok := fun _ => True) (okp := fun _ => True) ?hr ?hp (fun _ hk => hk) trivial (Below.refl _ _) (Nat.le_refl _) (by simp) ?_; (case hd => rfl); (case hg => rfl); (case hr => first | (go_simp; done) | (go_simp; rfl)); (case hp => exact (Reps.c4 (show Kd.M k36 _ _ _ (⟨(⟨t264, t265⟩ : S27), x273002_29, false⟩ : S36) [.int .i64 t264, .int .i64 t265, .int .i64 x273002_29, .bool false] from (k36_mkM _ _ _ (⟨(⟨t264, t265⟩ : S27), x273002_29, false⟩ : S36) )) (Reps.none _ _)))
                                        intro v284 w103 ho104 hb hg_ hnew_
                                        clear hg_ hnew_
                                        (first | rw [← Ny283.out] at ho104 | (simp only [Int.reduceToNat] at ho104; rw [← Ny283.out] at ho104))
                                        have n0_ := Aside0.mk (Kd.R_elder' (by (with_reducible repeat (first | apply Kd.R_alloc | apply Kd.R_drewN | apply Kd.R_drew)); exact HO_8.out) (Kd.R_base ho104) hb)
                                        have n1_ := Aside0.mk (Kd.R_lower (Kd.R_newB (Kd.R_new' ho104 (Kd.R_lt (by (with_reducible repeat (first | apply Kd.R_alloc | apply Kd.R_drewN | apply Kd.R_drew)); exact HO_8.out))) (g := gb272) (o := .cells #[.int .i64 t264, .int .i64 t265, .int .i64 x273002_29, .bool false] 36 (0, 0)) (by (with_reducible repeat (first | refine blk_drewN ?_ _ | refine blk_drew ?_ | refine blk_alloc ?_ _)); exact BK272.out)) (below_size (by repeat (first | (with_reducible first | exact HB.out | apply below_alloc | apply pw_below_drewN | apply below_drew1 | refine below_set ?_ GE266.out | refine below_set ?_ GE269.out | refine below_set ?_ GE272.out) | exact HB.out))))
                                        have n2_ := Aside0.mk (blk_below (g := gb266) (o := .cells #[.int .i64 t264, .int .i64 t265] 27 (0, 0)) (by (with_reducible repeat (first | refine blk_drewN ?_ _ | refine blk_drew ?_ | refine blk_alloc ?_ _)); exact BK266.out) hb)
                                        have n3_ := Aside0.mk (blk_below (g := gb269) (o := .cells #[.int .i64 t267, .int .i64 t268] 27 (0, 0)) (by (with_reducible repeat (first | refine blk_drewN ?_ _ | refine blk_drew ?_ | refine blk_alloc ?_ _)); exact BK269.out) hb)
                                        have n4_ := Aside0.mk (blk_below (g := gb272) (o := .cells #[.int .i64 t264, .int .i64 t265, .int .i64 x273002_29, .bool false] 36 (0, 0)) (by (with_reducible repeat (first | refine blk_drewN ?_ _ | refine blk_drew ?_ | refine blk_alloc ?_ _)); exact BK272.out) hb)
                                        have n5_ := Aside0.mk (Kd.C_below (by repeat (first | (with_reducible exact HR279.out) | (with_reducible refine Kd.C_alloc ?_ _) | (with_reducible refine Kd.C_drewN ?_ _) | (with_reducible refine Kd.C_drew ?_) | exact HR279.out)) hb)
                                        have n6_ := Aside0.mk (Kd.C_below (by repeat (first | (with_reducible exact HR292.out) | (with_reducible refine Kd.C_alloc ?_ _) | (with_reducible refine Kd.C_drewN ?_ _) | (with_reducible refine Kd.C_drew ?_) | exact HR292.out)) hb)
                                        have n7_ := Aside0.mk (below_step (by repeat (first | (with_reducible first | exact HB.out | apply below_alloc | apply pw_below_drewN | apply below_drew1 | refine below_set ?_ GE266.out | refine below_set ?_ GE269.out | refine below_set ?_ GE272.out) | exact HB.out)) hb)
                                        clear HO_8
                                        clear BK266
                                        clear BK269
                                        clear BK272
                                        clear HR279
                                        clear HR292
                                        clear HB
                                        have HO_8 := n0_
                                        have HO285 := n1_
                                        have BK266 := n2_
                                        have BK269 := n3_
                                        have BK272 := n4_
                                        have HR279 := n5_
                                        have HR292 := n6_
                                        have HB := n7_
                                        clear n0_ n1_ n2_ n3_ n4_ n5_ n6_ n7_
                                        clear hb ho104
                                        refine hK.out _ _ ⟨(blk_cell BK272.out 0).trans rfl, (blk_cell BK272.out 1).trans rfl, (blk_cell BK272.out 2).trans rfl, (blk_cell BK272.out 3).trans rfl⟩ (fun hHeld => ?_)
                                        clear hK K
                                        refine norm_ (a' := ?_) ?_ ?_
                                        rotate_left
                                        · show Act.put _ (some 80) _ = _
                                          simp only [Act.put, List.setIfInBounds_toArray, List.set_cons_zero, List.set_cons_succ, i64_w, i32_w]
                                          rfl
                                        refine one_ (i := 3) (N := some 78) #[true, true, true, true, true, true, false, true, true, true, false, false] rfl rfl (one_of HT_.out (by kernel_rfl)) (by decide) (fun K hK => ?_)
                                        refine Kd.R_append_rows_step k36 (w0 := w) w.heap.size (by rfl) (.const (.slice none 0 0)) (.tmp 77) 22 36 (.agg #[(.int .i64 0), (.int .i64 0), (.int .i64 0), (.bool false)]) 32 rfl Try.underlying22 info36 rfl (by decide) (by omega) (.slice none 0 0) ([] : List (S36)) y276 _ _ _ (fun k_ => some k_ ≠ (.slice Ao101 t261.length co101 : Value).ownBlock ∧ some k_ ≠ (v284 : Value).ownBlock ∧ k_ ≠ gb272) (fun _ => False) rfl rfl ?aO ?aR (fun _ _ h => h) (fun _ h => h.elim) ?aF ?aB ?aS ?aL ?_
                                        (case aR => repeat (first | exact (by repeat (first | (with_reducible exact HR279.out) | (with_reducible refine Kd.C_alloc ?_ _) | (with_reducible refine Kd.C_drewN ?_ _) | (with_reducible refine Kd.C_drew ?_) | exact HR279.out)) | (with_reducible refine Kd.C_alloc ?_ _) | (with_reducible refine Kd.C_drewN ?_ _) | (with_reducible refine Kd.C_drew ?_)))
                                        (case aB => exact (by repeat (first | (with_reducible first | exact HB.out | apply below_alloc | apply pw_below_drewN | apply below_drew1 | refine below_set ?_ GE266.out | refine below_set ?_ GE269.out | refine below_set ?_ GE272.out) | exact HB.out)))
                                        (case aF => exact (fun k_ hk => ⟨Kd.fresh' (Kd.R_lt (by (with_reducible repeat (first | apply Kd.R_alloc | apply Kd.R_drewN | apply Kd.R_drew)); exact HO_8.out)) k_ hk, Kd.fresh' (Kd.R_lt (by (with_reducible repeat (first | apply Kd.R_alloc | apply Kd.R_drewN | apply Kd.R_drew)); exact HO285.out)) k_ hk, Kd.freshB (g := gb272) (o := .cells #[.int .i64 t264, .int .i64 t265, .int .i64 x273002_29, .bool false] 36 (0, 0)) (by (with_reducible repeat (first | refine blk_drewN ?_ _ | refine blk_drew ?_ | refine blk_alloc ?_ _)); exact BK272.out) k_ hk⟩))
                                        (case aO => exact ((Kd.R_nil _ _ _ _ (fun k_ => some k_ ≠ (.slice Ao101 t261.length co101 : Value).ownBlock ∧ some k_ ≠ (v284 : Value).ownBlock ∧ k_ ≠ gb272))))
                                        (case aS => exact (below_size (by repeat (first | (with_reducible first | exact HB.out | apply below_alloc | apply pw_below_drewN | apply below_drew1 | refine below_set ?_ GE266.out | refine below_set ?_ GE269.out | refine below_set ?_ GE272.out) | exact HB.out))))
                                        (case aL => have := LMc58.out; omega)
                                        intro v281 w105 ho hb hg hat
                                        rw [← Ny280.out] at ho
                                        have n0_ := Aside0.mk (Kd.R_after (Kd.R_apart_nil (by (with_reducible repeat (first | apply Kd.R_alloc | apply Kd.R_drewN | apply Kd.R_drew)); exact HO_8.out)) hg hat)
                                        have n1_ := Aside0.mk (blk_grown (g := gb266) (o := .cells #[.int .i64 t264, .int .i64 t265] 27 (0, 0)) (by (with_reducible repeat (first | refine blk_drewN ?_ _ | refine blk_drew ?_ | refine blk_alloc ?_ _)); exact BK266.out) hg (by simp [Value.ownBlock]))
                                        have n2_ := Aside0.mk (blk_grown (g := gb269) (o := .cells #[.int .i64 t267, .int .i64 t268] 27 (0, 0)) (by (with_reducible repeat (first | refine blk_drewN ?_ _ | refine blk_drew ?_ | refine blk_alloc ?_ _)); exact BK269.out) hg (by simp [Value.ownBlock]))
                                        have n3_ := Aside0.mk (blk_grown (g := gb272) (o := .cells #[.int .i64 t264, .int .i64 t265, .int .i64 x273002_29, .bool false] 36 (0, 0)) (by (with_reducible repeat (first | refine blk_drewN ?_ _ | refine blk_drew ?_ | refine blk_alloc ?_ _)); exact BK272.out) hg (by simp [Value.ownBlock]))
                                        have n4_ := Aside0.mk (Kd.R_after (Kd.R_apart_nil (by (with_reducible repeat (first | apply Kd.R_alloc | apply Kd.R_drewN | apply Kd.R_drew)); exact HO285.out)) hg hat)
                                        have n5_ := Aside0.mk (hb)
                                        have n6_ := Aside0.mk ((show Kd.C k36 w105 Ao101 y276.length y276 from by rw [Ny276.out]; exact Kd.C_take (m := (x11_7 : Int).toNat) ((Kd.R_reads' (Kd.R_after (Kd.R_apart_nil (by (with_reducible repeat (first | apply Kd.R_alloc | apply Kd.R_drewN | apply Kd.R_drew)); exact HO_8.out)) hg hat)).2.2) KL100.out))
                                        have n7_ := Aside0.mk ((show Kd.C k36 w105 A102 y289.length y289 from by rw [Ny289.out, KA102.out]; exact Kd.C_drop (m := (x11_7 : Int).toNat) (c := co101) ((Kd.R_reads' (Kd.R_after (Kd.R_apart_nil (by (with_reducible repeat (first | apply Kd.R_alloc | apply Kd.R_drewN | apply Kd.R_drew)); exact HO_8.out)) hg hat)).2.2) KL102.out ((Kd.R_reads' (Kd.R_after (Kd.R_apart_nil (by (with_reducible repeat (first | apply Kd.R_alloc | apply Kd.R_drewN | apply Kd.R_drew)); exact HO_8.out)) hg hat)).2.1)))
                                        have n8_ := Aside0.mk (ho)
                                        clear HO_8
                                        clear BK266
                                        clear BK269
                                        clear BK272
                                        clear HO285
                                        clear HB
                                        clear HR279
                                        clear HR292
                                        have HO_8 := n0_
                                        have BK266 := n1_
                                        have BK269 := n2_
                                        have BK272 := n3_
                                        have HO285 := n4_
                                        have HB := n5_
                                        have HR279 := n6_
                                        have HR292 := n7_
                                        have HO282 := n8_
                                        clear n0_ n1_ n2_ n3_ n4_ n5_ n6_ n7_ n8_
                                        clear ho hb hg hat
                                        refine hK.out _ _ ⟨(blk_cell BK272.out 0).trans rfl, (blk_cell BK272.out 1).trans rfl, (blk_cell BK272.out 2).trans rfl, (blk_cell BK272.out 3).trans rfl⟩ (fun hHeld => ?_)
                                        clear hK K
                                        refine norm_ (a' := ?_) ?_ ?_
                                        rotate_left
                                        · show Act.put _ (some 78) _ = _
                                          simp only [Act.put, List.setIfInBounds_toArray, List.set_cons_zero, List.set_cons_succ, i64_w, i32_w]
                                          rfl
                                        exact norm_ (by simp only [putAll, Act.put, List.setIfInBounds_toArray, List.set_cons_zero, List.set_cons_succ]) (hCont (v281, v284) _ ⟨hHeld, (by (with_reducible repeat (first | apply Kd.R_alloc | apply Kd.R_drewN | apply Kd.R_drew)); exact Kd.R_mono HO282.out (fun _ hk => ⟨hk.2.1, ⟨hk.1, hk.2.2⟩⟩)), (by (with_reducible repeat (first | apply Kd.R_alloc | apply Kd.R_drewN | apply Kd.R_drew)); exact Kd.R_mono HO285.out (fun _ hk => ⟨hk.2, ⟨hk.1.1.2, hk.1.2⟩⟩)), (by (with_reducible repeat (first | apply Kd.R_alloc | apply Kd.R_drewN | apply Kd.R_drew)); exact Kd.R_mono HO_8.out (fun _ hk => ⟨hk.2, ⟨hk.1.2, hk.1.1⟩⟩)), (by (with_reducible repeat (first | refine blk_drewN ?_ _ | refine blk_drew ?_ | refine blk_alloc ?_ _)); exact BK266.out), (by (with_reducible repeat (first | refine blk_drewN ?_ _ | refine blk_drew ?_ | refine blk_alloc ?_ _)); exact BK269.out), (by (with_reducible repeat (first | refine blk_drewN ?_ _ | refine blk_drew ?_ | refine blk_alloc ?_ _)); exact BK272.out), (by repeat (first | (with_reducible first | exact HB.out | apply below_alloc | apply pw_below_drewN | apply below_drew1 | refine below_set ?_ GE266.out | refine below_set ?_ GE269.out | refine below_set ?_ GE272.out) | exact HB.out))⟩)
                                    rintro ⟨v281, v284⟩ w106 ⟨hS_, h0_, h1_, h2_, h3_, h4_, h5_, h6_⟩
                                    have n0_ : Aside0 (Kd.R k36 36 w106 w.heap.size (fun k_ => some k_ ≠ (v284 : Value).ownBlock ∧ some k_ ≠ (.slice Ao101 t261.length co101 : Value).ownBlock ∧ k_ ≠ gb272) v281 y280) := ⟨h0_⟩
                                    have n1_ : Aside0 (Kd.R k36 36 w106 w.heap.size (fun k_ => some k_ ≠ (v281 : Value).ownBlock ∧ some k_ ≠ (.slice Ao101 t261.length co101 : Value).ownBlock ∧ k_ ≠ gb272) v284 y283) := ⟨h1_⟩
                                    have n2_ : Aside0 (Kd.R k36 36 w106 w.heap.size (fun k_ => some k_ ≠ (v281 : Value).ownBlock ∧ some k_ ≠ (v284 : Value).ownBlock ∧ k_ ≠ gb272) (.slice Ao101 t261.length co101) t261) := ⟨h2_⟩
                                    have n3_ : Aside0 (w106.heap[gb266]? = some (.cells #[.int .i64 t264, .int .i64 t265] 27 (0, 0))) := ⟨h3_⟩
                                    have n4_ : Aside0 (w106.heap[gb269]? = some (.cells #[.int .i64 t267, .int .i64 t268] 27 (0, 0))) := ⟨h4_⟩
                                    have n5_ : Aside0 (w106.heap[gb272]? = some (.cells #[.int .i64 t264, .int .i64 t265, .int .i64 x273002_29, .bool false] 36 (0, 0))) := ⟨h5_⟩
                                    have n6_ : Aside0 (Below w.heap.size w w106) := ⟨h6_⟩
                                    clear HO_8
                                    clear BK266
                                    clear BK269
                                    clear BK272
                                    clear HB
                                    clear h0_ h1_ h2_ h3_ h4_ h5_ h6_
                                    have HO282 := n0_
                                    have HO285 := n1_
                                    have HO_8 := n2_
                                    have BK266 := n3_
                                    have BK269 := n4_
                                    have BK272 := n5_
                                    have HB := n6_
                                    clear n0_ n1_ n2_ n3_ n4_ n5_ n6_
                                    have hHeld : w106.cell? ⟨gb272, 0, none⟩ = some (.int .i64 t264) ∧ w106.cell? ⟨gb272, 1, none⟩ = some (.int .i64 t265) ∧ w106.cell? ⟨gb272, 2, none⟩ = some (.int .i64 x273002_29) ∧ w106.cell? ⟨gb272, 3, none⟩ = some (.bool false) := hS_
                                    obtain ⟨Ao108, co108, eo108⟩ := Kd.R_slice HO285.out
                                    (first | subst eo108 | (injection eo108 with f1_ f2_ f3_; have f4_ := f1_.symm; have f5_ := f3_.symm; clear f1_ f2_ f3_; subst f4_; subst f5_))
                                    refine norm_ (a' := ?_) ?_ ?_
                                    rotate_left
                                    · simp only [putAll, Act.put, List.setIfInBounds_toArray, List.set_cons_zero, List.set_cons_succ]
                                      rfl
                                    refine one_ (i := 6) (N := some 81) #[true, true, true, true, true, true, true, true, true, true, false, false] rfl rfl (one_of HT_.out (by kernel_rfl)) (by decide) (fun K hK => ?_)
                                    refine Kd.R_append_rows_step k36 (w0 := w) w.heap.size (by rfl) (.tmp 78) (.tmp 80) 22 36 (.agg #[(.int .i64 0), (.int .i64 0), (.int .i64 0), (.bool false)]) 32 rfl Try.underlying22 info36 rfl (by decide) (by omega) v281 y280 y283 _ _ _ (fun k_ => some k_ ≠ (.slice Ao101 t261.length co101 : Value).ownBlock ∧ some k_ ≠ (.slice Ao108 y283.length co108 : Value).ownBlock ∧ k_ ≠ gb272) (fun _ => False) rfl rfl ?aO ?aR (fun _ _ h => h) (fun _ h => h.elim) ?aF ?aB ?aS ?aL ?_
                                    (case aR => repeat (first | exact (Kd.R_reads' HO285.out).2.2 | (with_reducible refine Kd.C_alloc ?_ _) | (with_reducible refine Kd.C_drewN ?_ _) | (with_reducible refine Kd.C_drew ?_)))
                                    (case aB => exact (by repeat (first | (with_reducible first | exact HB.out | apply below_alloc | apply pw_below_drewN | apply below_drew1 | refine below_set ?_ GE266.out | refine below_set ?_ GE269.out | refine below_set ?_ GE272.out) | exact HB.out)))
                                    (case aF => exact (fun k_ hk => ⟨Kd.fresh' (Kd.R_lt (by (with_reducible repeat (first | apply Kd.R_alloc | apply Kd.R_drewN | apply Kd.R_drew)); exact HO_8.out)) k_ hk, Kd.fresh' (Kd.R_lt (by (with_reducible repeat (first | apply Kd.R_alloc | apply Kd.R_drewN | apply Kd.R_drew)); exact HO285.out)) k_ hk, Kd.freshB (g := gb272) (o := .cells #[.int .i64 t264, .int .i64 t265, .int .i64 x273002_29, .bool false] 36 (0, 0)) (by (with_reducible repeat (first | refine blk_drewN ?_ _ | refine blk_drew ?_ | refine blk_alloc ?_ _)); exact BK272.out) k_ hk⟩))
                                    (case aO => exact (by (with_reducible repeat (first | apply Kd.R_alloc | apply Kd.R_drewN | apply Kd.R_drew)); exact Kd.R_mono HO282.out (fun _ hk => ⟨hk.2.1, ⟨hk.1, hk.2.2⟩⟩)))
                                    (case aS => exact (below_size (by repeat (first | (with_reducible first | exact HB.out | apply below_alloc | apply pw_below_drewN | apply below_drew1 | refine below_set ?_ GE266.out | refine below_set ?_ GE269.out | refine below_set ?_ GE272.out) | exact HB.out))))
                                    (case aL => have := LMc59.out; omega)
                                    intro v287 w107 ho hb hg hat
                                    rw [← Ny286.out] at ho
                                    have n0_ := Aside0.mk (Kd.R_after (ok := (fun k_ => some k_ ≠ (.slice Ao108 y283.length co108 : Value).ownBlock ∧ k_ ≠ gb272)) (by (with_reducible repeat (first | apply Kd.R_alloc | apply Kd.R_drewN | apply Kd.R_drew)); exact Kd.R_mono HO_8.out (fun _ hk => ⟨⟨hk.2.1, hk.2.2⟩, hk.1⟩)) hg hat)
                                    have n1_ := Aside0.mk (blk_grown (g := gb266) (o := .cells #[.int .i64 t264, .int .i64 t265] 27 (0, 0)) (by (with_reducible repeat (first | refine blk_drewN ?_ _ | refine blk_drew ?_ | refine blk_alloc ?_ _)); exact BK266.out) hg (Kd.R_ne HO282.out BK266.out (by decide)))
                                    have n2_ := Aside0.mk (blk_grown (g := gb269) (o := .cells #[.int .i64 t267, .int .i64 t268] 27 (0, 0)) (by (with_reducible repeat (first | refine blk_drewN ?_ _ | refine blk_drew ?_ | refine blk_alloc ?_ _)); exact BK269.out) hg (Kd.R_ne HO282.out BK269.out (by decide)))
                                    have n3_ := Aside0.mk (blk_grown (g := gb272) (o := .cells #[.int .i64 t264, .int .i64 t265, .int .i64 x273002_29, .bool false] 36 (0, 0)) (by (with_reducible repeat (first | refine blk_drewN ?_ _ | refine blk_drew ?_ | refine blk_alloc ?_ _)); exact BK272.out) hg (Kd.R_away HO282.out (fun _ hk => hk.2.2)))
                                    have n4_ := Aside0.mk (Kd.R_after (ok := (fun k_ => some k_ ≠ (.slice Ao101 t261.length co101 : Value).ownBlock ∧ k_ ≠ gb272)) (by (with_reducible repeat (first | apply Kd.R_alloc | apply Kd.R_drewN | apply Kd.R_drew)); exact Kd.R_mono HO285.out (fun _ hk => ⟨⟨hk.2.1, hk.2.2⟩, hk.1⟩)) hg hat)
                                    have n5_ := Aside0.mk (hb)
                                    have n6_ := Aside0.mk (ho)
                                    clear HO_8
                                    clear BK266
                                    clear BK269
                                    clear BK272
                                    clear HO285
                                    clear HB
                                    clear HO282
                                    have HO_8 := n0_
                                    have BK266 := n1_
                                    have BK269 := n2_
                                    have BK272 := n3_
                                    have HO285 := n4_
                                    have HB := n5_
                                    have HO288 := n6_
                                    clear n0_ n1_ n2_ n3_ n4_ n5_ n6_
                                    clear ho hb hg hat
                                    refine hK.out _ _ ⟨(blk_cell BK272.out 0).trans rfl, (blk_cell BK272.out 1).trans rfl, (blk_cell BK272.out 2).trans rfl, (blk_cell BK272.out 3).trans rfl⟩ (fun hHeld => ?_)
                                    clear hK K
                                    refine norm_ (a' := ?_) ?_ ?_
                                    rotate_left
                                    · show Act.put _ (some 81) _ = _
                                      simp only [Act.put, List.setIfInBounds_toArray, List.set_cons_zero, List.set_cons_succ, i64_w, i32_w]
                                      rfl
                                    refine one_ (i := 10) (N := some 85) #[true, true, true, true, true, true, true, true, true, true, true, false] rfl rfl (one_of HT_.out (by kernel_rfl)) (by decide) (fun K hK => ?_)
                                    refine Kd.R_append_rows_step k36 (w0 := w) w.heap.size (by rfl) (.tmp 81) (.tmp 84) 22 36 (.agg #[(.int .i64 0), (.int .i64 0), (.int .i64 0), (.bool false)]) 32 rfl Try.underlying22 info36 rfl (by decide) (by omega) v287 y286 y289 _ _ _ (fun k_ => some k_ ≠ (.slice Ao101 t261.length co101 : Value).ownBlock ∧ some k_ ≠ (.slice Ao108 y283.length co108 : Value).ownBlock ∧ k_ ≠ gb272) (fun _ => False) rfl rfl ?aO ?aR (fun _ _ h => h) (fun _ h => h.elim) ?aF ?aB ?aS ?aL ?_
                                    (case aR => (have hz_ := Kd.C_drop (m := (x11_7 : Int).toNat) (c := co101) (Kd.R_reads' HO_8.out).2.2 KL102.out (Kd.R_reads' HO_8.out).2.1; rw [show (t261).drop (x11_7 : Int).toNat = y289 from Ny289.out.symm] at hz_; replace hz_ : Kd.C k36 _ A102 y289.length y289 := (by rw [KA102.out]; exact hz_); repeat (first | exact hz_ | (with_reducible refine Kd.C_alloc ?_ _) | (with_reducible refine Kd.C_drewN ?_ _) | (with_reducible refine Kd.C_drew ?_))))
                                    (case aB => exact (by repeat (first | (with_reducible first | exact HB.out | apply below_alloc | apply pw_below_drewN | apply below_drew1 | refine below_set ?_ GE266.out | refine below_set ?_ GE269.out | refine below_set ?_ GE272.out) | exact HB.out)))
                                    (case aF => exact (fun k_ hk => ⟨Kd.fresh' (Kd.R_lt (by (with_reducible repeat (first | apply Kd.R_alloc | apply Kd.R_drewN | apply Kd.R_drew)); exact HO_8.out)) k_ hk, Kd.fresh' (Kd.R_lt (by (with_reducible repeat (first | apply Kd.R_alloc | apply Kd.R_drewN | apply Kd.R_drew)); exact HO285.out)) k_ hk, Kd.freshB (g := gb272) (o := .cells #[.int .i64 t264, .int .i64 t265, .int .i64 x273002_29, .bool false] 36 (0, 0)) (by (with_reducible repeat (first | refine blk_drewN ?_ _ | refine blk_drew ?_ | refine blk_alloc ?_ _)); exact BK272.out) k_ hk⟩))
                                    (case aO => exact (by (with_reducible repeat (first | apply Kd.R_alloc | apply Kd.R_drewN | apply Kd.R_drew)); exact HO288.out))
                                    (case aS => exact (below_size (by repeat (first | (with_reducible first | exact HB.out | apply below_alloc | apply pw_below_drewN | apply below_drew1 | refine below_set ?_ GE266.out | refine below_set ?_ GE269.out | refine below_set ?_ GE272.out) | exact HB.out))))
                                    (case aL => have := LMc62.out; omega)
                                    intro v294 w109 ho hb hg hat
                                    rw [← Ny293.out] at ho
                                    have n0_ := Aside0.mk (Kd.R_after (ok := (fun k_ => some k_ ≠ (.slice Ao108 y283.length co108 : Value).ownBlock ∧ k_ ≠ gb272)) (by (with_reducible repeat (first | apply Kd.R_alloc | apply Kd.R_drewN | apply Kd.R_drew)); exact HO_8.out) hg hat)
                                    have n1_ := Aside0.mk (blk_grown (g := gb266) (o := .cells #[.int .i64 t264, .int .i64 t265] 27 (0, 0)) (by (with_reducible repeat (first | refine blk_drewN ?_ _ | refine blk_drew ?_ | refine blk_alloc ?_ _)); exact BK266.out) hg (Kd.R_ne HO288.out BK266.out (by decide)))
                                    have n2_ := Aside0.mk (blk_grown (g := gb269) (o := .cells #[.int .i64 t267, .int .i64 t268] 27 (0, 0)) (by (with_reducible repeat (first | refine blk_drewN ?_ _ | refine blk_drew ?_ | refine blk_alloc ?_ _)); exact BK269.out) hg (Kd.R_ne HO288.out BK269.out (by decide)))
                                    have n3_ := Aside0.mk (blk_grown (g := gb272) (o := .cells #[.int .i64 t264, .int .i64 t265, .int .i64 x273002_29, .bool false] 36 (0, 0)) (by (with_reducible repeat (first | refine blk_drewN ?_ _ | refine blk_drew ?_ | refine blk_alloc ?_ _)); exact BK272.out) hg (Kd.R_away HO288.out (fun _ hk => hk.2.2)))
                                    have n4_ := Aside0.mk (Kd.R_after (ok := (fun k_ => some k_ ≠ (.slice Ao101 t261.length co101 : Value).ownBlock ∧ k_ ≠ gb272)) (by (with_reducible repeat (first | apply Kd.R_alloc | apply Kd.R_drewN | apply Kd.R_drew)); exact HO285.out) hg hat)
                                    have n5_ := Aside0.mk (hb)
                                    have n6_ := Aside0.mk (ho)
                                    clear HO_8
                                    clear BK266
                                    clear BK269
                                    clear BK272
                                    clear HO285
                                    clear HB
                                    clear HO288
                                    have HO_8 := n0_
                                    have BK266 := n1_
                                    have BK269 := n2_
                                    have BK272 := n3_
                                    have HO285 := n4_
                                    have HB := n5_
                                    have HO295 := n6_
                                    clear n0_ n1_ n2_ n3_ n4_ n5_ n6_
                                    clear ho hb hg hat
                                    refine hK.out _ _ ⟨(blk_cell BK272.out 0).trans rfl, (blk_cell BK272.out 1).trans rfl, (blk_cell BK272.out 2).trans rfl, (blk_cell BK272.out 3).trans rfl⟩ (fun hHeld => ?_)
                                    clear hK K
                                    refine norm_ (a' := ?_) ?_ ?_
                                    rotate_left
                                    · show Act.put _ (some 85) _ = _
                                      simp only [Act.put, List.setIfInBounds_toArray, List.set_cons_zero, List.set_cons_succ, i64_w, i32_w]
                                      rfl
                                    refine pure_ (i := 11) (N := some 13) (v := ?_) (a' := ?_) #[true, true, true, true, true, true, true, true, true, true, true, true] rfl rfl (any_of HT_.out (by kernel_rfl)) (fun _ _ _ h => h) (Or.inl ⟨by rfl, ?_⟩) ?_ ?_
                                    rotate_left
                                    · intro w'
                                      go_simp
                                      with_reducible rfl
                                    rotate_left
                                    · simp only [Act.put, List.setIfInBounds_toArray, List.set_cons_zero, List.set_cons_succ, i64_w, i32_w]
                                      rfl
                                    refine done_ (done_of HT_.out (by kernel_rfl)) ?_
                                    obtain ⟨Ao110, co110, eo110⟩ := Kd.R_slice HO295.out
                                    subst eo110
                                    try go_wp2_with (first | ((with_reducible refine gate_callee (f := 20) rfl ?_); refine goesL_ (some 88) rfl rfl Try.func20 (by kernel_rfl) rfl #[.slice Ao110 y293.length co110] rfl (by (try simp only [List.map_toArray, List.map_cons, List.map_nil]); first | done | rfl | (simp only [List.length_drop, List.length_take]; rfl)) ?_; (with_reducible refine (tempo_Check.calls kj29 _ _ y293 t296 t297 _ ?side1 ?side2 A63.out).mono ?_); (case side1 => repeat (first | exact (Kd.R_reads' HO295.out).2.2 | (with_reducible refine Kd.C_alloc ?_ _) | (with_reducible refine Kd.C_drewN ?_ _) | (with_reducible refine Kd.C_drew ?_))); (case side2 => exact (Kd.R_reads' HO295.out).2.1); rintro e w111 ⟨rfl, hb⟩; refine ⟨_, rfl, ?_⟩; have n0_ := Aside0.mk (Kd.R_below (by (with_reducible repeat (first | apply Kd.R_alloc | apply Kd.R_drewN | apply Kd.R_drew)); exact HO_8.out) hb); have n1_ := Aside0.mk (Kd.R_below (by (with_reducible repeat (first | apply Kd.R_alloc | apply Kd.R_drewN | apply Kd.R_drew)); exact HO285.out) hb); have n2_ := Aside0.mk (Kd.R_below (by (with_reducible repeat (first | apply Kd.R_alloc | apply Kd.R_drewN | apply Kd.R_drew)); exact HO295.out) hb); have n3_ := Aside0.mk (blk_below (g := gb266) (o := .cells #[.int .i64 t264, .int .i64 t265] 27 (0, 0)) (by (with_reducible repeat (first | refine blk_drewN ?_ _ | refine blk_drew ?_ | refine blk_alloc ?_ _)); exact BK266.out) hb); have n4_ := Aside0.mk (blk_below (g := gb269) (o := .cells #[.int .i64 t267, .int .i64 t268] 27 (0, 0)) (by (with_reducible repeat (first | refine blk_drewN ?_ _ | refine blk_drew ?_ | refine blk_alloc ?_ _)); exact BK269.out) hb); have n5_ := Aside0.mk (blk_below (g := gb272) (o := .cells #[.int .i64 t264, .int .i64 t265, .int .i64 x273002_29, .bool false] 36 (0, 0)) (by (with_reducible repeat (first | refine blk_drewN ?_ _ | refine blk_drew ?_ | refine blk_alloc ?_ _)); exact BK272.out) hb); have n6_ := Aside0.mk (below_step (by repeat (first | (with_reducible first | exact HB.out | apply below_alloc | apply pw_below_drewN | apply below_drew1 | refine below_set ?_ GE266.out | refine below_set ?_ GE269.out | refine below_set ?_ GE272.out) | exact HB.out)) hb); clear HO_8; clear HO285; clear HO295; clear BK266; clear BK269; clear BK272; clear HB; have HO_8 := n0_; have HO285 := n1_; have HO295 := n2_; have BK266 := n3_; have BK269 := n4_; have BK272 := n5_; have HB := n6_; clear n0_ n1_ n2_ n3_ n4_ n5_ n6_; (try clear hb); (try clear hb2); (try clear hk); (try clear hi); have hnb112 := NB269_266.out; have hnc112 := NB266_269.out; have hnb113 := NB269_272.out; have hnc113 := NB272_269.out; have hcz114_0 : w111.cell? ⟨gb269, 0, none⟩ = some (.int .i64 t267) := (blk_cell BK269.out 0).trans rfl; have hcz114_1 : w111.cell? ⟨gb269, 1, none⟩ = some (.int .i64 t268) := (blk_cell BK269.out 1).trans rfl; have hfz114_0 := blk_frozen BK269.out 0; have hfz114_1 := blk_frozen BK269.out 1) | ((with_reducible refine gate_callee (f := 17) rfl ?_); refine goesL_ (some 94) rfl rfl Try.func17 (by kernel_rfl) rfl #[.slice Ao101 t261.length co101, .agg #[.int .i64 t267, .int .i64 t268]] rfl (by (try simp only [List.map_toArray, List.map_cons, List.map_nil]); first | done | rfl | (simp only [List.length_drop, List.length_take]; rfl)) ?_; (with_reducible refine (tempo_Rate.calls kj29 _ _ t261 t267 t268 t298 t299 _ ?side1 ?side2 A64.out).mono ?_); (case side1 => repeat (first | exact (Kd.R_reads' HO_8.out).2.2 | (with_reducible refine Kd.C_alloc ?_ _) | (with_reducible refine Kd.C_drewN ?_ _) | (with_reducible refine Kd.C_drew ?_))); (case side2 => exact (Kd.R_reads' HO_8.out).2.1); rintro e w115 ⟨rfl, hb⟩; refine ⟨_, rfl, ?_⟩; have n0_ := Aside0.mk (Kd.R_below (by (with_reducible repeat (first | apply Kd.R_alloc | apply Kd.R_drewN | apply Kd.R_drew)); exact HO_8.out) hb); have n1_ := Aside0.mk (Kd.R_below (by (with_reducible repeat (first | apply Kd.R_alloc | apply Kd.R_drewN | apply Kd.R_drew)); exact HO285.out) hb); have n2_ := Aside0.mk (Kd.R_below (by (with_reducible repeat (first | apply Kd.R_alloc | apply Kd.R_drewN | apply Kd.R_drew)); exact HO295.out) hb); have n3_ := Aside0.mk (blk_below (g := gb266) (o := .cells #[.int .i64 t264, .int .i64 t265] 27 (0, 0)) (by (with_reducible repeat (first | refine blk_drewN ?_ _ | refine blk_drew ?_ | refine blk_alloc ?_ _)); exact BK266.out) hb); have n4_ := Aside0.mk (blk_below (g := gb269) (o := .cells #[.int .i64 t267, .int .i64 t268] 27 (0, 0)) (by (with_reducible repeat (first | refine blk_drewN ?_ _ | refine blk_drew ?_ | refine blk_alloc ?_ _)); exact BK269.out) hb); have n5_ := Aside0.mk (blk_below (g := gb272) (o := .cells #[.int .i64 t264, .int .i64 t265, .int .i64 x273002_29, .bool false] 36 (0, 0)) (by (with_reducible repeat (first | refine blk_drewN ?_ _ | refine blk_drew ?_ | refine blk_alloc ?_ _)); exact BK272.out) hb); have n6_ := Aside0.mk (below_step (by repeat (first | (with_reducible first | exact HB.out | apply below_alloc | apply pw_below_drewN | apply below_drew1 | refine below_set ?_ GE266.out | refine below_set ?_ GE269.out | refine below_set ?_ GE272.out) | exact HB.out)) hb); clear HO_8; clear HO285; clear HO295; clear BK266; clear BK269; clear BK272; clear HB; have HO_8 := n0_; have HO285 := n1_; have HO295 := n2_; have BK266 := n3_; have BK269 := n4_; have BK272 := n5_; have HB := n6_; clear n0_ n1_ n2_ n3_ n4_ n5_ n6_; (try clear hb); (try clear hb2); (try clear hk); (try clear hi); have hcz116_0 : w115.cell? ⟨gb269, 0, none⟩ = some (.int .i64 t267) := (blk_cell BK269.out 0).trans rfl; have hcz116_1 : w115.cell? ⟨gb269, 1, none⟩ = some (.int .i64 t268) := (blk_cell BK269.out 1).trans rfl; have hfz116_0 := blk_frozen BK269.out 0; have hfz116_1 := blk_frozen BK269.out 1) | ((with_reducible refine gate_callee (f := 17) rfl ?_); refine goesL_ (some 100) rfl rfl Try.func17 (by kernel_rfl) rfl #[.slice Ao110 y293.length co110, .agg #[.int .i64 t267, .int .i64 t268]] rfl (by (try simp only [List.map_toArray, List.map_cons, List.map_nil]); first | done | rfl | (simp only [List.length_drop, List.length_take]; rfl)) ?_; (with_reducible refine (tempo_Rate.calls kj29 _ _ y293 t267 t268 t300 t301 _ ?side1 ?side2 A65.out).mono ?_); (case side1 => repeat (first | exact (Kd.R_reads' HO295.out).2.2 | (with_reducible refine Kd.C_alloc ?_ _) | (with_reducible refine Kd.C_drewN ?_ _) | (with_reducible refine Kd.C_drew ?_))); (case side2 => exact (Kd.R_reads' HO295.out).2.1); rintro e w117 ⟨rfl, hb⟩; refine ⟨_, rfl, ?_⟩; have n0_ := Aside0.mk (Kd.R_below (by (with_reducible repeat (first | apply Kd.R_alloc | apply Kd.R_drewN | apply Kd.R_drew)); exact HO_8.out) hb); have n1_ := Aside0.mk (Kd.R_below (by (with_reducible repeat (first | apply Kd.R_alloc | apply Kd.R_drewN | apply Kd.R_drew)); exact HO285.out) hb); have n2_ := Aside0.mk (Kd.R_below (by (with_reducible repeat (first | apply Kd.R_alloc | apply Kd.R_drewN | apply Kd.R_drew)); exact HO295.out) hb); have n3_ := Aside0.mk (blk_below (g := gb266) (o := .cells #[.int .i64 t264, .int .i64 t265] 27 (0, 0)) (by (with_reducible repeat (first | refine blk_drewN ?_ _ | refine blk_drew ?_ | refine blk_alloc ?_ _)); exact BK266.out) hb); have n4_ := Aside0.mk (blk_below (g := gb269) (o := .cells #[.int .i64 t267, .int .i64 t268] 27 (0, 0)) (by (with_reducible repeat (first | refine blk_drewN ?_ _ | refine blk_drew ?_ | refine blk_alloc ?_ _)); exact BK269.out) hb); have n5_ := Aside0.mk (blk_below (g := gb272) (o := .cells #[.int .i64 t264, .int .i64 t265, .int .i64 x273002_29, .bool false] 36 (0, 0)) (by (with_reducible repeat (first | refine blk_drewN ?_ _ | refine blk_drew ?_ | refine blk_alloc ?_ _)); exact BK272.out) hb); have n6_ := Aside0.mk (below_step (by repeat (first | (with_reducible first | exact HB.out | apply below_alloc | apply pw_below_drewN | apply below_drew1 | refine below_set ?_ GE266.out | refine below_set ?_ GE269.out | refine below_set ?_ GE272.out) | exact HB.out)) hb); clear HO_8; clear HO285; clear HO295; clear BK266; clear BK269; clear BK272; clear HB; have HO_8 := n0_; have HO285 := n1_; have HO295 := n2_; have BK266 := n3_; have BK269 := n4_; have BK272 := n5_; have HB := n6_; clear n0_ n1_ n2_ n3_ n4_ n5_ n6_; (try clear hb); (try clear hb2); (try clear hk); (try clear hi); have hcz118_0 : w117.cell? ⟨gb269, 0, none⟩ = some (.int .i64 t267) := (blk_cell BK269.out 0).trans rfl; have hcz118_1 : w117.cell? ⟨gb269, 1, none⟩ = some (.int .i64 t268) := (blk_cell BK269.out 1).trans rfl; have hfz118_0 := blk_frozen BK269.out 0; have hfz118_1 := blk_frozen BK269.out 1) | ((with_reducible refine gate_callee (f := 15) rfl ?_); refine goesL_ (some 106) rfl rfl Try.func15 (by kernel_rfl) rfl #[.slice Ao101 t261.length co101, .agg #[.int .i64 t267, .int .i64 t268]] rfl (by (try simp only [List.map_toArray, List.map_cons, List.map_nil]); first | done | rfl | (simp only [List.length_drop, List.length_take]; rfl)) ?_; (with_reducible refine (tempo_Micros.calls kj29 _ _ t261 t267 t268 t302 t303 _ ?side1 ?side2 A66.out).mono ?_); (case side1 => repeat (first | exact (Kd.R_reads' HO_8.out).2.2 | (with_reducible refine Kd.C_alloc ?_ _) | (with_reducible refine Kd.C_drewN ?_ _) | (with_reducible refine Kd.C_drew ?_))); (case side2 => exact (Kd.R_reads' HO_8.out).2.1); rintro e w119 ⟨rfl, hb⟩; refine ⟨_, rfl, ?_⟩; have n0_ := Aside0.mk (Kd.R_below (by (with_reducible repeat (first | apply Kd.R_alloc | apply Kd.R_drewN | apply Kd.R_drew)); exact HO_8.out) hb); have n1_ := Aside0.mk (Kd.R_below (by (with_reducible repeat (first | apply Kd.R_alloc | apply Kd.R_drewN | apply Kd.R_drew)); exact HO285.out) hb); have n2_ := Aside0.mk (Kd.R_below (by (with_reducible repeat (first | apply Kd.R_alloc | apply Kd.R_drewN | apply Kd.R_drew)); exact HO295.out) hb); have n3_ := Aside0.mk (blk_below (g := gb266) (o := .cells #[.int .i64 t264, .int .i64 t265] 27 (0, 0)) (by (with_reducible repeat (first | refine blk_drewN ?_ _ | refine blk_drew ?_ | refine blk_alloc ?_ _)); exact BK266.out) hb); have n4_ := Aside0.mk (blk_below (g := gb269) (o := .cells #[.int .i64 t267, .int .i64 t268] 27 (0, 0)) (by (with_reducible repeat (first | refine blk_drewN ?_ _ | refine blk_drew ?_ | refine blk_alloc ?_ _)); exact BK269.out) hb); have n5_ := Aside0.mk (blk_below (g := gb272) (o := .cells #[.int .i64 t264, .int .i64 t265, .int .i64 x273002_29, .bool false] 36 (0, 0)) (by (with_reducible repeat (first | refine blk_drewN ?_ _ | refine blk_drew ?_ | refine blk_alloc ?_ _)); exact BK272.out) hb); have n6_ := Aside0.mk (below_step (by repeat (first | (with_reducible first | exact HB.out | apply below_alloc | apply pw_below_drewN | apply below_drew1 | refine below_set ?_ GE266.out | refine below_set ?_ GE269.out | refine below_set ?_ GE272.out) | exact HB.out)) hb); clear HO_8; clear HO285; clear HO295; clear BK266; clear BK269; clear BK272; clear HB; have HO_8 := n0_; have HO285 := n1_; have HO295 := n2_; have BK266 := n3_; have BK269 := n4_; have BK272 := n5_; have HB := n6_; clear n0_ n1_ n2_ n3_ n4_ n5_ n6_; (try clear hb); (try clear hb2); (try clear hk); (try clear hi); have hcz120_0 : w119.cell? ⟨gb269, 0, none⟩ = some (.int .i64 t267) := (blk_cell BK269.out 0).trans rfl; have hcz120_1 : w119.cell? ⟨gb269, 1, none⟩ = some (.int .i64 t268) := (blk_cell BK269.out 1).trans rfl; have hfz120_0 := blk_frozen BK269.out 0; have hfz120_1 := blk_frozen BK269.out 1) | ((with_reducible refine gate_callee (f := 15) rfl ?_); refine goesL_ (some 112) rfl rfl Try.func15 (by kernel_rfl) rfl #[.slice Ao110 y293.length co110, .agg #[.int .i64 t267, .int .i64 t268]] rfl (by (try simp only [List.map_toArray, List.map_cons, List.map_nil]); first | done | rfl | (simp only [List.length_drop, List.length_take]; rfl)) ?_; (with_reducible refine (tempo_Micros.calls kj29 _ _ y293 t267 t268 t304 t305 _ ?side1 ?side2 A67.out).mono ?_); (case side1 => repeat (first | exact (Kd.R_reads' HO295.out).2.2 | (with_reducible refine Kd.C_alloc ?_ _) | (with_reducible refine Kd.C_drewN ?_ _) | (with_reducible refine Kd.C_drew ?_))); (case side2 => exact (Kd.R_reads' HO295.out).2.1); rintro e w121 ⟨rfl, hb⟩; refine ⟨_, rfl, ?_⟩; have n0_ := Aside0.mk (Kd.R_below (by (with_reducible repeat (first | apply Kd.R_alloc | apply Kd.R_drewN | apply Kd.R_drew)); exact HO_8.out) hb); have n1_ := Aside0.mk (Kd.R_below (by (with_reducible repeat (first | apply Kd.R_alloc | apply Kd.R_drewN | apply Kd.R_drew)); exact HO285.out) hb); have n2_ := Aside0.mk (Kd.R_below (by (with_reducible repeat (first | apply Kd.R_alloc | apply Kd.R_drewN | apply Kd.R_drew)); exact HO295.out) hb); have n3_ := Aside0.mk (blk_below (g := gb266) (o := .cells #[.int .i64 t264, .int .i64 t265] 27 (0, 0)) (by (with_reducible repeat (first | refine blk_drewN ?_ _ | refine blk_drew ?_ | refine blk_alloc ?_ _)); exact BK266.out) hb); have n4_ := Aside0.mk (blk_below (g := gb269) (o := .cells #[.int .i64 t267, .int .i64 t268] 27 (0, 0)) (by (with_reducible repeat (first | refine blk_drewN ?_ _ | refine blk_drew ?_ | refine blk_alloc ?_ _)); exact BK269.out) hb); have n5_ := Aside0.mk (blk_below (g := gb272) (o := .cells #[.int .i64 t264, .int .i64 t265, .int .i64 x273002_29, .bool false] 36 (0, 0)) (by (with_reducible repeat (first | refine blk_drewN ?_ _ | refine blk_drew ?_ | refine blk_alloc ?_ _)); exact BK272.out) hb); have n6_ := Aside0.mk (below_step (by repeat (first | (with_reducible first | exact HB.out | apply below_alloc | apply pw_below_drewN | apply below_drew1 | refine below_set ?_ GE266.out | refine below_set ?_ GE269.out | refine below_set ?_ GE272.out) | exact HB.out)) hb); clear HO_8; clear HO285; clear HO295; clear BK266; clear BK269; clear BK272; clear HB; have HO_8 := n0_; have HO285 := n1_; have HO295 := n2_; have BK266 := n3_; have BK269 := n4_; have BK272 := n5_; have HB := n6_; clear n0_ n1_ n2_ n3_ n4_ n5_ n6_; (try clear hb); (try clear hb2); (try clear hk); (try clear hi)))
                                    go_ret
                                    exact ⟨by first | rfl | (simp [errW_none, errW_some] <;> rfl) | (simp [*, errW_none, errW_some] <;> rfl), by repeat (first | (with_reducible first | exact HB.out | apply below_alloc | apply pw_below_drewN | apply below_drew1 | refine below_set ?_ GE266.out | refine below_set ?_ GE269.out | refine below_set ?_ GE272.out) | exact HB.out)⟩
                                · rw [if_neg c74] at H
                                  cases H
                              · rw [if_neg c73] at H
                                cases H
                            · rw [if_neg c72] at H
                              cases H
                          · rw [if_neg c71] at H
                            cases H
                        · rw [if_neg c70] at H
                          cases H
                      · rw [if_neg c69] at H
                        cases H
                    · replace c68 := Bool.eq_false_iff.mpr c68
                      subst c68
                      have H1 : none = some r := by rw [if_neg (show ¬ (false = true) by decide)] at H; exact H
                      cases H1
                  · rw [if_neg c62] at H
                    exact absurd H (by simp)
                · rw [if_neg c59] at H
                  exact absurd H (by simp)
              · rw [if_neg c58] at H
                exact absurd H (by simp)
            · rw [if_neg c57] at H
              exact absurd H (by simp)
          · rw [if_neg c56] at H
            exact absurd H (by simp)

end Go.Proofs.Ytchjlkokfgmjaaa.Q
