-- Written by a program of this session (myprint.py), function by function.
import Derived.Test.YtchjlkokfgmjaaaQ0
import Derived.Test.YtchjlkokfgmjaaaQ1
import Derived.Test.YtchjlkokfgmjaaaQ6
import Derived.Test.YtchjlkokfgmjaaaQ7
import Derived.Test.YtchjlkokfgmjaaaQ8
namespace Go.Proofs.Ytchjlkokfgmjaaa.Q
open Go.RowKit Go.Proofs.YtchjlkokfgmjaaaW.PrintWords Go.Proofs.YtchjlkokfgmjaaaW.PrintLast Go.Proofs.YtchjlkokfgmjaaaW.PrintMore
attribute [local go_sem] max2_int min2_int max_two min_two max_three min_three max_four min_four   -- for this text's walks alone
set_option linter.unusedVariables false
set_option linter.unusedSimpArgs false

attribute [local go_sem high] eqA27
/-! ### partitalaw11_TempoBack: function 6 -/
def partitalaw11_TempoBack.j0 : Nat → Bool → List (S36) → Int → Int → Bool → Option (Bool)
  | 0, _, _, _, _, _ => none
  | k + 1, x5, x6, x7, x10, x50 => if x50 = true then none else (if x7 = 0 then (if x5 = true then (some (x10 == 0)) else none) else ((partitaref01_Of.f k (wrap64 (x7 - 1)) 96).bind fun bt230 => ((tempo_Place.f k x6 (wrap64 (x10 - 1)) 96).bind fun bt234 => (if x5 = true then (if bt234.2.2 = 0 then (some (bt234.1 == bt230.1 && (bt234.2.1 == bt230.2.1))) else none) else none))))
def partitalaw11_TempoBack.f (k : Nat) (l0 : List (S36)) (a1 : Int) : Option (Bool) := (partitalaw11_awake.f k).bind fun t215 => ((partitalaw11_Map.f k l0).bind fun t216 => ((partitalaw11_pick.f a1 2880).bind fun t219 => ((partitaref01_Of.f k t219 96).bind fun bt220 => ((tempo_Micros.f k t216 bt220.1 bt220.2.1).bind fun bt224 => ((tempo_Place.f k t216 bt224.1 96).bind fun bt226 => (if bt224.2 = 0 then (if bt226.2.2 = 0 then (partitalaw11_TempoBack.j0 k t215 t216 t219 bt224.1 (!(bt226.1 == bt220.1) || (!(bt226.2.1 == bt220.2.1)))) else (partitalaw11_TempoBack.j0 k t215 t216 t219 bt224.1 true)) else (partitalaw11_TempoBack.j0 k t215 t216 t219 bt224.1 true)))))))
theorem partitalaw11_TempoBack.mono_l : ∀ k, (∀ y0 y1 y2 y3 y4, LeO (partitalaw11_TempoBack.j0 k y0 y1 y2 y3 y4) (partitalaw11_TempoBack.j0 (k + 1) y0 y1 y2 y3 y4))
  | 0 => fun _ _ _ _ _ r h => by simp [partitalaw11_TempoBack.j0] at h
  | k + 1 => by
    have ih0 := partitalaw11_TempoBack.mono_l k
    · intro y0 y1 y2 y3 y4
      unfold partitalaw11_TempoBack.j0
      repeat' first
      | (with_reducible exact ih0 _ _ _ _ _)
      | (with_reducible exact partitalaw11_Map.mono _ _)
      | (with_reducible exact partitalaw11_awake.mono _)
      | (with_reducible exact partitaref01_Of.mono _ _ _)
      | (with_reducible exact tempo_Micros.mono _ _ _ _)
      | (with_reducible exact tempo_Place.mono _ _ _ _)
      | (with_reducible exact LeO.refl _)
      | (with_reducible exact LeO.none _)
      | (with_reducible refine LeO.ite ?_ ?_)
      | (with_reducible refine LeO.bind ?_ (fun _ => ?_))
      | exact ih0 _ _ _ _ _
      | exact partitalaw11_Map.mono _ _
      | exact partitalaw11_awake.mono _
      | exact partitaref01_Of.mono _ _ _
      | exact tempo_Micros.mono _ _ _ _
      | exact tempo_Place.mono _ _ _ _
      | exact LeO.none _
      | refine LeO.ite ?_ ?_
      | refine LeO.bind ?_ (fun _ => ?_)
theorem partitalaw11_TempoBack.mono : ∀ a0 a1 k, LeO (partitalaw11_TempoBack.f k a0 a1) (partitalaw11_TempoBack.f (k + 1) a0 a1) := by
  intro a0 a1 k
  have ih0 := partitalaw11_TempoBack.mono_l k
  unfold partitalaw11_TempoBack.f
  repeat' first
      | (with_reducible exact ih0 _ _ _ _ _)
      | (with_reducible exact partitalaw11_Map.mono _ _)
      | (with_reducible exact partitalaw11_awake.mono _)
      | (with_reducible exact partitaref01_Of.mono _ _ _)
      | (with_reducible exact tempo_Micros.mono _ _ _ _)
      | (with_reducible exact tempo_Place.mono _ _ _ _)
      | (with_reducible exact LeO.refl _)
      | (with_reducible exact LeO.none _)
      | (with_reducible refine LeO.ite ?_ ?_)
      | (with_reducible refine LeO.bind ?_ (fun _ => ?_))
      | exact ih0 _ _ _ _ _
      | exact partitalaw11_Map.mono _ _
      | exact partitalaw11_awake.mono _
      | exact partitaref01_Of.mono _ _ _
      | exact tempo_Micros.mono _ _ _ _
      | exact tempo_Place.mono _ _ _ _
      | exact LeO.none _
      | refine LeO.ite ?_ ?_
      | refine LeO.bind ?_ (fun _ => ?_)
set_option maxHeartbeats 8000000 in
set_option maxRecDepth 100000 in
theorem partitalaw11_TempoBack.calls (k : Nat) (A0 : Option Addr) (c0 : Nat) (l0 : List (S36)) (a1 : Int) (r : Bool) (w : World) (hr0 : Kd.C k36 w A0 l0.length l0) (hc0 : l0.length ≤ c0) (h : partitalaw11_TempoBack.f k l0 a1 = some r) :
    Calls Try.prog 6 #[.slice A0 l0.length c0, .int .i64 a1] w fun e w' => e = .returned (.bool r) ∧ Below w.heap.size w w' := by
  have hu27 := Try.underlying27
  have HR0 := Aside0.mk hr0
  have HC0 := Aside0.mk hc0
  clear hr0 hc0
  have HB := Aside0.mk (Below.refl w.heap.size w)
  have H : ((partitalaw11_awake.f k).bind fun t215 => ((partitalaw11_Map.f k l0).bind fun t216 => ((partitalaw11_pick.f a1 2880).bind fun t219 => ((partitaref01_Of.f k t219 96).bind fun bt220 => ((tempo_Micros.f k t216 bt220.1 bt220.2.1).bind fun bt224 => ((tempo_Place.f k t216 bt224.1 96).bind fun bt226 => (if bt224.2 = 0 then (if bt226.2.2 = 0 then (partitalaw11_TempoBack.j0 k t215 t216 t219 bt224.1 (!(bt226.1 == bt220.1) || (!(bt226.2.1 == bt220.2.1)))) else (partitalaw11_TempoBack.j0 k t215 t216 t219 bt224.1 true)) else (partitalaw11_TempoBack.j0 k t215 t216 t219 bt224.1 true)))))))) = some r := h
  clear h
  replace H := Option.bind_eq_some_iff.mp H
  obtain ⟨t215, A30, H⟩ := H
  replace H : ((partitalaw11_Map.f k l0).bind fun t216 => ((partitalaw11_pick.f a1 2880).bind fun t219 => ((partitaref01_Of.f k t219 96).bind fun bt220 => ((tempo_Micros.f k t216 bt220.1 bt220.2.1).bind fun bt224 => ((tempo_Place.f k t216 bt224.1 96).bind fun bt226 => (if bt224.2 = 0 then (if bt226.2.2 = 0 then (partitalaw11_TempoBack.j0 k t215 t216 t219 bt224.1 (!(bt226.1 == bt220.1) || (!(bt226.2.1 == bt220.2.1)))) else (partitalaw11_TempoBack.j0 k t215 t216 t219 bt224.1 true)) else (partitalaw11_TempoBack.j0 k t215 t216 t219 bt224.1 true))))))) = some r := H
  have A3 := Aside0.mk A30
  clear A30
  replace H := Option.bind_eq_some_iff.mp H
  obtain ⟨t216, A40, H⟩ := H
  replace H : ((partitalaw11_pick.f a1 2880).bind fun t219 => ((partitaref01_Of.f k t219 96).bind fun bt220 => ((tempo_Micros.f k t216 bt220.1 bt220.2.1).bind fun bt224 => ((tempo_Place.f k t216 bt224.1 96).bind fun bt226 => (if bt224.2 = 0 then (if bt226.2.2 = 0 then (partitalaw11_TempoBack.j0 k t215 t216 t219 bt224.1 (!(bt226.1 == bt220.1) || (!(bt226.2.1 == bt220.2.1)))) else (partitalaw11_TempoBack.j0 k t215 t216 t219 bt224.1 true)) else (partitalaw11_TempoBack.j0 k t215 t216 t219 bt224.1 true)))))) = some r := H
  have A4 := Aside0.mk A40
  clear A40
  replace H := Option.bind_eq_some_iff.mp H
  obtain ⟨t219, A50, H⟩ := H
  replace H : ((partitaref01_Of.f k t219 96).bind fun bt220 => ((tempo_Micros.f k t216 bt220.1 bt220.2.1).bind fun bt224 => ((tempo_Place.f k t216 bt224.1 96).bind fun bt226 => (if bt224.2 = 0 then (if bt226.2.2 = 0 then (partitalaw11_TempoBack.j0 k t215 t216 t219 bt224.1 (!(bt226.1 == bt220.1) || (!(bt226.2.1 == bt220.2.1)))) else (partitalaw11_TempoBack.j0 k t215 t216 t219 bt224.1 true)) else (partitalaw11_TempoBack.j0 k t215 t216 t219 bt224.1 true))))) = some r := H
  have A5 := Aside0.mk A50
  clear A50
  replace H := Option.bind_eq_some_iff.mp H
  obtain ⟨⟨t220, t221, t222⟩, A60, H⟩ := H
  replace H : ((tempo_Micros.f k t216 t220 t221).bind fun bt224 => ((tempo_Place.f k t216 bt224.1 96).bind fun bt226 => (if bt224.2 = 0 then (if bt226.2.2 = 0 then (partitalaw11_TempoBack.j0 k t215 t216 t219 bt224.1 (!(bt226.1 == t220) || (!(bt226.2.1 == t221)))) else (partitalaw11_TempoBack.j0 k t215 t216 t219 bt224.1 true)) else (partitalaw11_TempoBack.j0 k t215 t216 t219 bt224.1 true)))) = some r := H
  have A6 := Aside0.mk A60
  clear A60
  replace H := Option.bind_eq_some_iff.mp H
  obtain ⟨⟨t224, t225⟩, A70, H⟩ := H
  replace H : ((tempo_Place.f k t216 t224 96).bind fun bt226 => (if t225 = 0 then (if bt226.2.2 = 0 then (partitalaw11_TempoBack.j0 k t215 t216 t219 t224 (!(bt226.1 == t220) || (!(bt226.2.1 == t221)))) else (partitalaw11_TempoBack.j0 k t215 t216 t219 t224 true)) else (partitalaw11_TempoBack.j0 k t215 t216 t219 t224 true))) = some r := H
  have A7 := Aside0.mk A70
  clear A70
  replace H := Option.bind_eq_some_iff.mp H
  obtain ⟨⟨t226, t227, t228⟩, A80, H⟩ := H
  replace H : (if t225 = 0 then (if t228 = 0 then (partitalaw11_TempoBack.j0 k t215 t216 t219 t224 (!(t226 == t220) || (!(t227 == t221)))) else (partitalaw11_TempoBack.j0 k t215 t216 t219 t224 true)) else (partitalaw11_TempoBack.j0 k t215 t216 t219 t224 true)) = some r := H
  have A8 := Aside0.mk A80
  clear A80
  have HC9 := Aside0.mk H
  clear H
  go_enter Try.func6, Try.ntmps6
  go_upto_region 7 with (first | ((with_reducible refine gate_callee (f := 11) rfl ?_); refine goesL_ (some 18) rfl rfl Try.func11 (by kernel_rfl) rfl #[] rfl (by (try simp only [List.map_toArray, List.map_cons, List.map_nil]); first | done | rfl | (simp only [List.length_drop, List.length_take]; rfl)) ?_; (with_reducible refine (partitalaw11_awake.calls k  t215 _ A3.out).mono ?_); rintro e w10 ⟨rfl, hb⟩; refine ⟨_, rfl, ?_⟩; have n0_ := Aside0.mk (below_step (by repeat (first | (with_reducible first | exact HB.out | apply below_alloc | apply pw_below_drewN | apply below_drew1) | exact HB.out)) hb); clear HB; have HB := n0_; clear n0_; (try clear hb); (try clear hb2); (try clear hk); (try clear hi)) | ((with_reducible refine gate_callee (f := 12) rfl ?_); refine goesL_ (some 20) rfl rfl Try.func12 (by kernel_rfl) rfl #[.slice A0 l0.length c0] rfl (by (try simp only [List.map_toArray, List.map_cons, List.map_nil]); first | done | rfl | (simp only [List.length_drop, List.length_take]; rfl)) ?_; (with_reducible refine (partitalaw11_Map.calls k _ _ l0 t216 _ ?side1 ?side2 A4.out).mono ?_); (case side1 => repeat (first | exact (Kd.C_below HR0.out HB.out) | (with_reducible refine Kd.C_alloc ?_ _) | (with_reducible refine Kd.C_drewN ?_ _) | (with_reducible refine Kd.C_drew ?_))); (case side2 => exact HC0.out); rintro e w11 ⟨v217, rfl, ho0, hb⟩; refine ⟨_, rfl, ?_⟩; have n0_ := Aside0.mk (Kd.R_lower ho0 (below_size (by repeat (first | (with_reducible first | exact HB.out | apply below_alloc | apply pw_below_drewN | apply below_drew1) | exact HB.out)))); have n1_ := Aside0.mk (below_step (by repeat (first | (with_reducible first | exact HB.out | apply below_alloc | apply pw_below_drewN | apply below_drew1) | exact HB.out)) hb); clear HB; have HO218 := n0_; have HB := n1_; clear n0_ n1_; (try clear hb); (try clear hb2); (try clear hk); (try clear hi); (try clear ho0)) | ((with_reducible refine gate_callee (f := 13) rfl ?_); refine goesL_ (some 22) rfl rfl Try.func13 (by kernel_rfl) rfl #[.int .i64 a1, .int .i64 2880] rfl (by (try simp only [List.map_toArray, List.map_cons, List.map_nil]); first | done | rfl | (simp only [List.length_drop, List.length_take]; rfl)) ?_; (with_reducible refine (partitalaw11_pick.calls a1 2880 t219 _ A5.out).mono ?_); rintro e w' ⟨rfl, ⟨nd, rfl⟩⟩; refine ⟨_, rfl, ?_⟩; (try (rw [drewN_self w11]; generalize hq_ : World.drewN w11 _ = w11; have n0_ : Aside0 (Kd.R k36 36 w11 w.heap.size (fun _ => True) v217 t216) := ⟨by rw [← hq_]; exact (by (with_reducible repeat (first | apply Kd.R_alloc | apply Kd.R_drewN | apply Kd.R_drew)); exact HO218.out)⟩; have n1_ : Aside0 (Below w.heap.size w w11) := ⟨by rw [← hq_]; exact (by repeat (first | (with_reducible first | exact HB.out | apply below_alloc | apply pw_below_drewN | apply below_drew1) | exact HB.out))⟩; clear HO218 HB hq_; have HO218 := n0_; have HB := n1_; clear n0_ n1_))) | ((with_reducible refine gate_callee (f := 14) rfl ?_); refine goesL_ (some 25) rfl rfl Try.func14 (by kernel_rfl) rfl #[.int .i64 t219, .int .i64 96] rfl (by (try simp only [List.map_toArray, List.map_cons, List.map_nil]); first | done | rfl | (simp only [List.length_drop, List.length_take]; rfl)) ?_; (with_reducible refine (partitaref01_Of.calls k t219 96 t220 t221 t222 _ A6.out).mono ?_); rintro e w12 ⟨rfl, hb⟩; refine ⟨_, rfl, ?_⟩; have n0_ := Aside0.mk (Kd.R_below (by (with_reducible repeat (first | apply Kd.R_alloc | apply Kd.R_drewN | apply Kd.R_drew)); exact HO218.out) hb); have n1_ := Aside0.mk (below_step (by repeat (first | (with_reducible first | exact HB.out | apply below_alloc | apply pw_below_drewN | apply below_drew1) | exact HB.out)) hb); clear HO218; clear HB; have HO218 := n0_; have HB := n1_; clear n0_ n1_; (try clear hb); (try clear hb2); (try clear hk); (try clear hi)) | ((with_reducible refine gate_dst (N := 8) rfl ?_); refine box_event ?hg (N := 8) ?hd (cs := #[.int .i64 0, .int .i64 0]) (t := 27) ?hr ?_; (case hd => rfl); (case hg => rfl); (case hr => first | (go_simp; done) | (go_simp; rfl)); intro gb223 hg w13 hbox hb; have n0_ := Aside0.mk (Kd.R_below (by (with_reducible repeat (first | apply Kd.R_alloc | apply Kd.R_drewN | apply Kd.R_drew)); exact HO218.out) hb); have n1_ := Aside0.mk (below_step (by repeat (first | (with_reducible first | exact HB.out | apply below_alloc | apply pw_below_drewN | apply below_drew1) | exact HB.out)) hb); have n2_ := Aside0.mk (hbox); have n3_ := Aside0.mk ((by rw [hg]; exact (below_size (by repeat (first | (with_reducible first | exact HB.out | apply below_alloc | apply pw_below_drewN | apply below_drew1) | exact HB.out))) : w.heap.size ≤ gb223)); have n4_ := Aside0.mk ((by rw [hg]; exact (below_size (by repeat (first | (with_reducible first | exact HB.out | apply below_alloc | apply pw_below_drewN | apply below_drew1) | exact HB.out))) : w.heap.size ≤ gb223)); clear HO218; clear HB; have HO218 := n0_; have HB := n1_; have BK223 := n2_; have GW223 := n3_; have GE223 := n4_; clear n0_ n1_ n2_ n3_ n4_; clear hb hbox hg; have hcz14_0 : w13.cell? ⟨gb223, 0, none⟩ = some (.int .i64 0) := (blk_cell BK223.out 0).trans rfl; have hcz14_1 : w13.cell? ⟨gb223, 1, none⟩ = some (.int .i64 0) := (blk_cell BK223.out 1).trans rfl; have hfz14_0 := blk_frozen BK223.out 0; have hfz14_1 := blk_frozen BK223.out 1; obtain ⟨Ao15, co15, eo15⟩ := Kd.R_slice HO218.out; subst eo15) | ((with_reducible refine gate_callee (f := 15) rfl ?_); refine goesL_ (some 31) rfl rfl Try.func15 (by kernel_rfl) rfl #[.slice Ao15 t216.length co15, .agg #[.int .i64 t220, .int .i64 t221]] rfl (by (try simp only [List.map_toArray, List.map_cons, List.map_nil]); first | done | rfl | (simp only [List.length_drop, List.length_take]; rfl)) ?_; (with_reducible refine (tempo_Micros.calls k _ _ t216 t220 t221 t224 t225 _ ?side1 ?side2 A7.out).mono ?_); (case side1 => refine (Kd.R_reads' (e := 36) (base := w.heap.size) (ok := fun k_ => True) (n := t216.length) (c := co15) ?_).2.2; exact (by (with_reducible repeat (first | apply Kd.R_alloc | apply Kd.R_drewN | apply Kd.R_drew)); exact (Kd.R_mono (Kd.R_far (p := ⟨gb223, 1, none⟩) (Kd.R_far (p := ⟨gb223, 0, none⟩) (Kd.R_types HO218.out BK223.out (by decide)) (fun _ hk => hk.2) (.int .i64 t220)) (fun _ hk => hk.2) (.int .i64 t221)) (fun _ h_ => h_.1)))); (case side2 => exact (Kd.R_reads' HO218.out).2.1); rintro e w16 ⟨rfl, hb⟩; refine ⟨_, rfl, ?_⟩; have n0_ := Aside0.mk (Kd.R_below (by (with_reducible repeat (first | apply Kd.R_alloc | apply Kd.R_drewN | apply Kd.R_drew)); exact (Kd.R_mono (Kd.R_far (p := ⟨gb223, 1, none⟩) (Kd.R_far (p := ⟨gb223, 0, none⟩) (Kd.R_types HO218.out BK223.out (by decide)) (fun _ hk => hk.2) (.int .i64 t220)) (fun _ hk => hk.2) (.int .i64 t221)) (fun _ h_ => h_.1))) hb); have n1_ := Aside0.mk (blk_below (g := gb223) (o := .cells #[.int .i64 t220, .int .i64 t221] 27 (0, 0)) (by (with_reducible repeat (first | refine blk_drewN ?_ _ | refine blk_drew ?_ | refine blk_alloc ?_ _)); refine blk_put (cs := #[.int .i64 t220, .int .i64 0]) ?_ 1 _ rfl; (with_reducible repeat (first | refine blk_drewN ?_ _ | refine blk_drew ?_ | refine blk_alloc ?_ _)); refine blk_put (cs := #[.int .i64 0, .int .i64 0]) ?_ 0 _ rfl; (with_reducible repeat (first | refine blk_drewN ?_ _ | refine blk_drew ?_ | refine blk_alloc ?_ _)); exact BK223.out) hb); have n2_ := Aside0.mk (below_step (by repeat (first | (with_reducible first | exact HB.out | apply below_alloc | apply pw_below_drewN | apply below_drew1 | refine below_set ?_ GE223.out) | exact HB.out)) hb); clear HO218; clear BK223; clear HB; have HO218 := n0_; have BK223 := n1_; have HB := n2_; clear n0_ n1_ n2_; (try clear hb); (try clear hb2); (try clear hk); (try clear hi)) | ((with_reducible refine gate_callee (f := 18) rfl ?_); refine goesL_ (some 37) rfl rfl Try.func18 (by kernel_rfl) rfl #[.slice Ao15 t216.length co15, .int .i64 t224, .int .i64 96] rfl (by (try simp only [List.map_toArray, List.map_cons, List.map_nil]); first | done | rfl | (simp only [List.length_drop, List.length_take]; rfl)) ?_; (with_reducible refine (tempo_Place.calls k _ _ t216 t224 96 t226 t227 t228 _ ?side1 ?side2 A8.out).mono ?_); (case side1 => repeat (first | exact (Kd.R_reads' HO218.out).2.2 | (with_reducible refine Kd.C_alloc ?_ _) | (with_reducible refine Kd.C_drewN ?_ _) | (with_reducible refine Kd.C_drew ?_))); (case side2 => exact (Kd.R_reads' HO218.out).2.1); rintro e w17 ⟨rfl, hb⟩; refine ⟨_, rfl, ?_⟩; have n0_ := Aside0.mk (Kd.R_below (by (with_reducible repeat (first | apply Kd.R_alloc | apply Kd.R_drewN | apply Kd.R_drew)); exact HO218.out) hb); have n1_ := Aside0.mk (blk_below (g := gb223) (o := .cells #[.int .i64 t220, .int .i64 t221] 27 (0, 0)) (by (with_reducible repeat (first | refine blk_drewN ?_ _ | refine blk_drew ?_ | refine blk_alloc ?_ _)); exact BK223.out) hb); have n2_ := Aside0.mk (below_step (by repeat (first | (with_reducible first | exact HB.out | apply below_alloc | apply pw_below_drewN | apply below_drew1 | refine below_set ?_ GE223.out) | exact HB.out)) hb); clear HO218; clear BK223; clear HB; have HO218 := n0_; have BK223 := n1_; have HB := n2_; clear n0_ n1_ n2_; (try clear hb); (try clear hb2); (try clear hk); (try clear hi)) | ((with_reducible refine gate_dst (N := 12) rfl ?_); refine box_event ?hg (N := 12) ?hd (cs := #[.int .i64 0, .int .i64 0]) (t := 27) ?hr ?_; (case hd => rfl); (case hg => rfl); (case hr => first | (go_simp; done) | (go_simp; rfl)); intro gb229 hg w18 hbox hb; have n0_ := Aside0.mk (Kd.R_below (by (with_reducible repeat (first | apply Kd.R_alloc | apply Kd.R_drewN | apply Kd.R_drew)); exact HO218.out) hb); have n1_ := Aside0.mk (blk_below (g := gb223) (o := .cells #[.int .i64 t220, .int .i64 t221] 27 (0, 0)) (by (with_reducible repeat (first | refine blk_drewN ?_ _ | refine blk_drew ?_ | refine blk_alloc ?_ _)); exact BK223.out) hb); have n2_ := Aside0.mk (below_step (by repeat (first | (with_reducible first | exact HB.out | apply below_alloc | apply pw_below_drewN | apply below_drew1 | refine below_set ?_ GE223.out) | exact HB.out)) hb); have n3_ := Aside0.mk (hbox); have n4_ := Aside0.mk ((by rw [hg]; exact (below_size (by repeat (first | (with_reducible first | exact HB.out | apply below_alloc | apply pw_below_drewN | apply below_drew1 | refine below_set ?_ GE223.out) | exact HB.out))) : w.heap.size ≤ gb229)); have n5_ := Aside0.mk ((by rw [hg]; exact (below_size (by repeat (first | (with_reducible first | exact HB.out | apply below_alloc | apply pw_below_drewN | apply below_drew1 | refine below_set ?_ GE223.out) | exact HB.out))) : w.heap.size ≤ gb229)); have n6_ := Aside0.mk ((by rw [hg]; exact Nat.ne_of_lt (blk_lt (g := gb223) (o := .cells #[.int .i64 t220, .int .i64 t221] 27 (0, 0)) (by (with_reducible repeat (first | refine blk_drewN ?_ _ | refine blk_drew ?_ | refine blk_alloc ?_ _)); exact BK223.out)) : gb223 ≠ gb229)); have n7_ := Aside0.mk ((by rw [hg]; exact Nat.ne_of_gt (blk_lt (g := gb223) (o := .cells #[.int .i64 t220, .int .i64 t221] 27 (0, 0)) (by (with_reducible repeat (first | refine blk_drewN ?_ _ | refine blk_drew ?_ | refine blk_alloc ?_ _)); exact BK223.out)) : gb229 ≠ gb223)); clear HO218; clear BK223; clear HB; have HO218 := n0_; have BK223 := n1_; have HB := n2_; have BK229 := n3_; have GW229 := n4_; have GE229 := n5_; have NB223_229 := n6_; have NB229_223 := n7_; clear n0_ n1_ n2_ n3_ n4_ n5_ n6_ n7_; clear hb hbox hg; have hnb19 := NB229_223.out; have hnc19 := NB223_229.out; have hcz20_0 : w18.cell? ⟨gb229, 0, none⟩ = some (.int .i64 0) := (blk_cell BK229.out 0).trans rfl; have hcz20_1 : w18.cell? ⟨gb229, 1, none⟩ = some (.int .i64 0) := (blk_cell BK229.out 1).trans rfl; have hfz20_0 := blk_frozen BK229.out 0; have hfz20_1 := blk_frozen BK229.out 1))
  (try simp only [Act.put, qa_, qz_, qs_])
  go_cut [50] (fun v50 wc => ∃ (kq : Nat) (x50_8 : Bool), v50 = .bool x50_8 ∧ Aside0 (partitalaw11_TempoBack.j0 kq t215 t216 t219 t224 x50_8 = some r) ∧ Aside0 (kq ≤ k) ∧ Aside0 (Kd.R k36 36 wc w.heap.size (fun _ => True) (.slice Ao15 t216.length co15) t216) ∧ Aside0 (wc.heap[gb223]? = some (.cells #[.int .i64 t220, .int .i64 t221] 27 (0, 0))) ∧ Aside0 (wc.heap[gb229]? = some (.cells #[.int .i64 t226, .int .i64 t227] 27 (0, 0))) ∧ Aside0 (Below w.heap.size w wc))
  case first =>
    have H := HC9.out
    clear HC9
    by_cases c21 : t225 = 0
    · rw [if_pos c21] at H
      have c21b0 : (t225 == 0) = true := beq_iff_eq.mpr c21
      have c21b1 : (t225 != 0) = false := bne_eq_false_iff_eq.mpr c21
      clear c21
      (first | rw [c21b0] | (simp only [i64_w, i32_w]; rw [c21b0]) | skip)
      by_cases c22 : t228 = 0
      · rw [if_pos c22] at H
        have c22b0 : (t228 == 0) = true := beq_iff_eq.mpr c22
        have c22b1 : (t228 != 0) = false := bne_eq_false_iff_eq.mpr c22
        clear c22
        have H' := Aside0.mk H
        clear H
        have hnb23 := NB229_223.out
        have hnc23 := NB223_229.out
        have hcz24_0 : w18.cell? ⟨gb229, 0, none⟩ = some (.int .i64 0) := (blk_cell BK229.out 0).trans rfl
        have hcz24_1 : w18.cell? ⟨gb229, 1, none⟩ = some (.int .i64 0) := (blk_cell BK229.out 1).trans rfl
        have hfz24_0 := blk_frozen BK229.out 0
        have hfz24_1 := blk_frozen BK229.out 1
        have hcz25_0 : w18.cell? ⟨gb223, 0, none⟩ = some (.int .i64 t220) := (blk_cell BK223.out 0).trans rfl
        have hcz25_1 : w18.cell? ⟨gb223, 1, none⟩ = some (.int .i64 t221) := (blk_cell BK223.out 1).trans rfl
        have hfz25_0 := blk_frozen BK223.out 0
        have hfz25_1 := blk_frozen BK223.out 1
        go_wp2
        go_meet
        case rel => exact ⟨_, ((!(t226 == t220) || (!(t227 == t221)))), (by first | rfl | (simp; done) | (simp [*]; done)), H', ⟨by first | omega | exact Nat.le_refl _⟩, ⟨by (with_reducible repeat (first | apply Kd.R_alloc | apply Kd.R_drewN | apply Kd.R_drew)); exact Kd.R_mono (Kd.R_far (p := ⟨gb229, 1, none⟩) (Kd.R_far (p := ⟨gb229, 0, none⟩) (Kd.R_types HO218.out BK229.out (by decide)) (fun _ hk => hk.2) (.int .i64 t226)) (fun _ hk => hk.2) (.int .i64 t227)) (fun _ hk => trivial)⟩, ⟨by (with_reducible repeat (first | refine blk_drewN ?_ _ | refine blk_drew ?_ | refine blk_alloc ?_ _)); refine blk_far ?_ NB223_229.out _; (with_reducible repeat (first | refine blk_drewN ?_ _ | refine blk_drew ?_ | refine blk_alloc ?_ _)); refine blk_far ?_ NB223_229.out _; (with_reducible repeat (first | refine blk_drewN ?_ _ | refine blk_drew ?_ | refine blk_alloc ?_ _)); exact BK223.out⟩, ⟨by (with_reducible repeat (first | refine blk_drewN ?_ _ | refine blk_drew ?_ | refine blk_alloc ?_ _)); refine blk_put (cs := #[.int .i64 t226, .int .i64 0]) ?_ 1 _ rfl; (with_reducible repeat (first | refine blk_drewN ?_ _ | refine blk_drew ?_ | refine blk_alloc ?_ _)); refine blk_put (cs := #[.int .i64 0, .int .i64 0]) ?_ 0 _ rfl; (with_reducible repeat (first | refine blk_drewN ?_ _ | refine blk_drew ?_ | refine blk_alloc ?_ _)); exact BK229.out⟩, ⟨by repeat (first | (with_reducible first | exact HB.out | apply below_alloc | apply pw_below_drewN | apply below_drew1 | refine below_set ?_ GE223.out | refine below_set ?_ GE229.out) | exact HB.out)⟩⟩
      · rw [if_neg c22] at H
        have c22b0 : (t228 == 0) = false := beq_eq_false_iff_ne.mpr c22
        have c22b1 : (t228 != 0) = true := bne_iff_ne.mpr c22
        have H' := Aside0.mk H
        clear H
        go_wp2
        go_meet
        case rel => exact ⟨_, (true), (by first | rfl | (simp; done) | (simp [*]; done)), H', ⟨by first | omega | exact Nat.le_refl _⟩, ⟨by (with_reducible repeat (first | apply Kd.R_alloc | apply Kd.R_drewN | apply Kd.R_drew)); exact Kd.R_mono (Kd.R_far (p := ⟨gb229, 1, none⟩) (Kd.R_far (p := ⟨gb229, 0, none⟩) (Kd.R_types HO218.out BK229.out (by decide)) (fun _ hk => hk.2) (.int .i64 t226)) (fun _ hk => hk.2) (.int .i64 t227)) (fun _ hk => trivial)⟩, ⟨by (with_reducible repeat (first | refine blk_drewN ?_ _ | refine blk_drew ?_ | refine blk_alloc ?_ _)); refine blk_far ?_ NB223_229.out _; (with_reducible repeat (first | refine blk_drewN ?_ _ | refine blk_drew ?_ | refine blk_alloc ?_ _)); refine blk_far ?_ NB223_229.out _; (with_reducible repeat (first | refine blk_drewN ?_ _ | refine blk_drew ?_ | refine blk_alloc ?_ _)); exact BK223.out⟩, ⟨by (with_reducible repeat (first | refine blk_drewN ?_ _ | refine blk_drew ?_ | refine blk_alloc ?_ _)); refine blk_put (cs := #[.int .i64 t226, .int .i64 0]) ?_ 1 _ rfl; (with_reducible repeat (first | refine blk_drewN ?_ _ | refine blk_drew ?_ | refine blk_alloc ?_ _)); refine blk_put (cs := #[.int .i64 0, .int .i64 0]) ?_ 0 _ rfl; (with_reducible repeat (first | refine blk_drewN ?_ _ | refine blk_drew ?_ | refine blk_alloc ?_ _)); exact BK229.out⟩, ⟨by repeat (first | (with_reducible first | exact HB.out | apply below_alloc | apply pw_below_drewN | apply below_drew1 | refine below_set ?_ GE223.out | refine below_set ?_ GE229.out) | exact HB.out)⟩⟩
    · rw [if_neg c21] at H
      have c21b0 : (t225 == 0) = false := beq_eq_false_iff_ne.mpr c21
      have c21b1 : (t225 != 0) = true := bne_iff_ne.mpr c21
      (first | rw [c21b0] | (simp only [i64_w, i32_w]; rw [c21b0]) | skip)
      have H' := Aside0.mk H
      clear H
      go_wp2
      go_meet
      case rel => exact ⟨_, (true), (by first | rfl | (simp; done) | (simp [*]; done)), H', ⟨by first | omega | exact Nat.le_refl _⟩, ⟨by (with_reducible repeat (first | apply Kd.R_alloc | apply Kd.R_drewN | apply Kd.R_drew)); exact Kd.R_mono (Kd.R_far (p := ⟨gb229, 1, none⟩) (Kd.R_far (p := ⟨gb229, 0, none⟩) (Kd.R_types HO218.out BK229.out (by decide)) (fun _ hk => hk.2) (.int .i64 t226)) (fun _ hk => hk.2) (.int .i64 t227)) (fun _ hk => trivial)⟩, ⟨by (with_reducible repeat (first | refine blk_drewN ?_ _ | refine blk_drew ?_ | refine blk_alloc ?_ _)); refine blk_far ?_ NB223_229.out _; (with_reducible repeat (first | refine blk_drewN ?_ _ | refine blk_drew ?_ | refine blk_alloc ?_ _)); refine blk_far ?_ NB223_229.out _; (with_reducible repeat (first | refine blk_drewN ?_ _ | refine blk_drew ?_ | refine blk_alloc ?_ _)); exact BK223.out⟩, ⟨by (with_reducible repeat (first | refine blk_drewN ?_ _ | refine blk_drew ?_ | refine blk_alloc ?_ _)); refine blk_put (cs := #[.int .i64 t226, .int .i64 0]) ?_ 1 _ rfl; (with_reducible repeat (first | refine blk_drewN ?_ _ | refine blk_drew ?_ | refine blk_alloc ?_ _)); refine blk_put (cs := #[.int .i64 0, .int .i64 0]) ?_ 0 _ rfl; (with_reducible repeat (first | refine blk_drewN ?_ _ | refine blk_drew ?_ | refine blk_alloc ?_ _)); exact BK229.out⟩, ⟨by repeat (first | (with_reducible first | exact HB.out | apply below_alloc | apply pw_below_drewN | apply below_drew1 | refine below_set ?_ GE223.out | refine below_set ?_ GE229.out) | exact HB.out)⟩⟩
  case rest =>
    clear HC9
    try clear c1
    try clear c2
    try clear p2
    try clear c6
    try clear c11
    try clear c12
    try clear c13
    try clear c14
    try clear c15
    try clear c18
    try clear c19
    try clear c21
    try clear c21b0
    try clear c21b1
    try clear c22
    try clear c22b0
    try clear c22b1
    try clear c23
    try clear hcz14_0
    try clear hcz14_1
    try clear hcz20_0
    try clear hcz20_1
    try clear hcz24_0
    try clear hcz24_1
    try clear hcz25_0
    try clear hcz25_1
    try clear hfz14_0
    try clear hfz14_1
    try clear hfz20_0
    try clear hfz20_1
    try clear hfz24_0
    try clear hfz24_1
    try clear hfz25_0
    try clear hfz25_1
    obtain ⟨kq, x50_8, rfl, HA, HJ8, HO_6, BK223, BK229, HB⟩ := hcut
    cases kq with
    | zero => exact absurd HA.out (by simp [partitalaw11_TempoBack.j0])
    | succ kj8 =>
      have H := HA.out
      clear HA
      simp only [partitalaw11_TempoBack.j0] at H
      by_cases c26 : x50_8 = true
      · subst c26
        have H1 : none = some r := by rw [if_pos rfl] at H; exact H
        cases H1
      · replace c26 := Bool.eq_false_iff.mpr c26
        subst c26
        have H1 : (if t219 = 0 then (if t215 = true then (some (t224 == 0)) else none) else ((partitaref01_Of.f kj8 (wrap64 (t219 - 1)) 96).bind fun bt230 => ((tempo_Place.f kj8 t216 (wrap64 (t224 - 1)) 96).bind fun bt234 => (if t215 = true then (if bt234.2.2 = 0 then (some (bt234.1 == bt230.1 && (bt234.2.1 == bt230.2.1))) else none) else none)))) = some r := by rw [if_neg (show ¬ (false = true) by decide)] at H; exact H
        clear H
        have H := H1
        clear H1
        by_cases c27 : t219 = 0
        · rw [if_pos c27] at H
          have c27b0 : (t219 == 0) = true := beq_iff_eq.mpr c27
          have c27b1 : (t219 != 0) = false := bne_eq_false_iff_eq.mpr c27
          clear c27
          by_cases c28 : t215 = true
          · subst c28
            have H1 : (some (t224 == 0)) = some r := by rw [if_pos rfl] at H; exact H
            clear H
            have H := H1
            clear H1
            obtain rfl := Option.some.inj H
            go_wp2
            go_ret
            exact ⟨by first | rfl | (simp [errW_none, errW_some] <;> rfl) | (simp [*, errW_none, errW_some] <;> rfl), by repeat (first | (with_reducible first | exact HB.out | apply below_alloc | apply pw_below_drewN | apply below_drew1 | refine below_set ?_ GE223.out | refine below_set ?_ GE229.out) | exact HB.out)⟩
          · replace c28 := Bool.eq_false_iff.mpr c28
            subst c28
            have H1 : none = some r := by rw [if_neg (show ¬ (false = true) by decide)] at H; exact H
            cases H1
        · rw [if_neg c27] at H
          have c27b0 : (t219 == 0) = false := beq_eq_false_iff_ne.mpr c27
          have c27b1 : (t219 != 0) = true := bne_iff_ne.mpr c27
          replace H := Option.bind_eq_some_iff.mp H
          obtain ⟨⟨t230, t231, t232⟩, A290, H⟩ := H
          replace H : ((tempo_Place.f kj8 t216 (wrap64 (t224 - 1)) 96).bind fun bt234 => (if t215 = true then (if bt234.2.2 = 0 then (some (bt234.1 == t230 && (bt234.2.1 == t231))) else none) else none)) = some r := H
          have A29 := Aside0.mk A290
          clear A290
          replace H := Option.bind_eq_some_iff.mp H
          obtain ⟨⟨t234, t235, t236⟩, A300, H⟩ := H
          replace H : (if t215 = true then (if t236 = 0 then (some (t234 == t230 && (t235 == t231))) else none) else none) = some r := H
          have A30 := Aside0.mk A300
          clear A300
          by_cases c31 : t215 = true
          · subst c31
            have H1 : (if t236 = 0 then (some (t234 == t230 && (t235 == t231))) else none) = some r := by rw [if_pos rfl] at H; exact H
            clear H
            have H := H1
            clear H1
            by_cases c32 : t236 = 0
            · rw [if_pos c32] at H
              have c32b0 : (t236 == 0) = true := beq_iff_eq.mpr c32
              have c32b1 : (t236 != 0) = false := bne_eq_false_iff_eq.mpr c32
              clear c32
              obtain rfl := Option.some.inj H
              go_wp2_with (first | ((with_reducible refine gate_callee (f := 14) rfl ?_); refine goesL_ (some 61) rfl rfl Try.func14 (by kernel_rfl) rfl #[.int .i64 (wrap64 (t219 - 1)), .int .i64 96] rfl (by (try simp only [List.map_toArray, List.map_cons, List.map_nil]); first | done | rfl | (simp only [List.length_drop, List.length_take]; rfl)) ?_; (with_reducible refine (partitaref01_Of.calls kj8 (wrap64 (t219 - 1)) 96 t230 t231 t232 _ A29.out).mono ?_); rintro e w33 ⟨rfl, hb⟩; refine ⟨_, rfl, ?_⟩; have n0_ := Aside0.mk (Kd.R_below (by (with_reducible repeat (first | apply Kd.R_alloc | apply Kd.R_drewN | apply Kd.R_drew)); exact HO_6.out) hb); have n1_ := Aside0.mk (blk_below (g := gb223) (o := .cells #[.int .i64 t220, .int .i64 t221] 27 (0, 0)) (by (with_reducible repeat (first | refine blk_drewN ?_ _ | refine blk_drew ?_ | refine blk_alloc ?_ _)); exact BK223.out) hb); have n2_ := Aside0.mk (blk_below (g := gb229) (o := .cells #[.int .i64 t226, .int .i64 t227] 27 (0, 0)) (by (with_reducible repeat (first | refine blk_drewN ?_ _ | refine blk_drew ?_ | refine blk_alloc ?_ _)); exact BK229.out) hb); have n3_ := Aside0.mk (below_step (by repeat (first | (with_reducible first | exact HB.out | apply below_alloc | apply pw_below_drewN | apply below_drew1 | refine below_set ?_ GE223.out | refine below_set ?_ GE229.out) | exact HB.out)) hb); clear HO_6; clear BK223; clear BK229; clear HB; have HO_6 := n0_; have BK223 := n1_; have BK229 := n2_; have HB := n3_; clear n0_ n1_ n2_ n3_; (try clear hb); (try clear hb2); (try clear hk); (try clear hi)) | ((with_reducible refine gate_dst (N := 14) rfl ?_); refine box_event ?hg (N := 14) ?hd (cs := #[.int .i64 0, .int .i64 0]) (t := 27) ?hr ?_; (case hd => rfl); (case hg => rfl); (case hr => first | (go_simp; done) | (go_simp; rfl)); intro gb233 hg w34 hbox hb; have n0_ := Aside0.mk (Kd.R_below (by (with_reducible repeat (first | apply Kd.R_alloc | apply Kd.R_drewN | apply Kd.R_drew)); exact HO_6.out) hb); have n1_ := Aside0.mk (blk_below (g := gb223) (o := .cells #[.int .i64 t220, .int .i64 t221] 27 (0, 0)) (by (with_reducible repeat (first | refine blk_drewN ?_ _ | refine blk_drew ?_ | refine blk_alloc ?_ _)); exact BK223.out) hb); have n2_ := Aside0.mk (blk_below (g := gb229) (o := .cells #[.int .i64 t226, .int .i64 t227] 27 (0, 0)) (by (with_reducible repeat (first | refine blk_drewN ?_ _ | refine blk_drew ?_ | refine blk_alloc ?_ _)); exact BK229.out) hb); have n3_ := Aside0.mk (below_step (by repeat (first | (with_reducible first | exact HB.out | apply below_alloc | apply pw_below_drewN | apply below_drew1 | refine below_set ?_ GE223.out | refine below_set ?_ GE229.out) | exact HB.out)) hb); have n4_ := Aside0.mk (hbox); have n5_ := Aside0.mk ((by rw [hg]; exact (below_size (by repeat (first | (with_reducible first | exact HB.out | apply below_alloc | apply pw_below_drewN | apply below_drew1 | refine below_set ?_ GE223.out | refine below_set ?_ GE229.out) | exact HB.out))) : w.heap.size ≤ gb233)); have n6_ := Aside0.mk ((by rw [hg]; exact (below_size (by repeat (first | (with_reducible first | exact HB.out | apply below_alloc | apply pw_below_drewN | apply below_drew1 | refine below_set ?_ GE223.out | refine below_set ?_ GE229.out) | exact HB.out))) : w.heap.size ≤ gb233)); have n7_ := Aside0.mk ((by rw [hg]; exact Nat.ne_of_lt (blk_lt (g := gb223) (o := .cells #[.int .i64 t220, .int .i64 t221] 27 (0, 0)) (by (with_reducible repeat (first | refine blk_drewN ?_ _ | refine blk_drew ?_ | refine blk_alloc ?_ _)); exact BK223.out)) : gb223 ≠ gb233)); have n8_ := Aside0.mk ((by rw [hg]; exact Nat.ne_of_gt (blk_lt (g := gb223) (o := .cells #[.int .i64 t220, .int .i64 t221] 27 (0, 0)) (by (with_reducible repeat (first | refine blk_drewN ?_ _ | refine blk_drew ?_ | refine blk_alloc ?_ _)); exact BK223.out)) : gb233 ≠ gb223)); have n9_ := Aside0.mk ((by rw [hg]; exact Nat.ne_of_lt (blk_lt (g := gb229) (o := .cells #[.int .i64 t226, .int .i64 t227] 27 (0, 0)) (by (with_reducible repeat (first | refine blk_drewN ?_ _ | refine blk_drew ?_ | refine blk_alloc ?_ _)); exact BK229.out)) : gb229 ≠ gb233)); have n10_ := Aside0.mk ((by rw [hg]; exact Nat.ne_of_gt (blk_lt (g := gb229) (o := .cells #[.int .i64 t226, .int .i64 t227] 27 (0, 0)) (by (with_reducible repeat (first | refine blk_drewN ?_ _ | refine blk_drew ?_ | refine blk_alloc ?_ _)); exact BK229.out)) : gb233 ≠ gb229)); clear HO_6; clear BK223; clear BK229; clear HB; have HO_6 := n0_; have BK223 := n1_; have BK229 := n2_; have HB := n3_; have BK233 := n4_; have GW233 := n5_; have GE233 := n6_; have NB223_233 := n7_; have NB233_223 := n8_; have NB229_233 := n9_; have NB233_229 := n10_; clear n0_ n1_ n2_ n3_ n4_ n5_ n6_ n7_ n8_ n9_ n10_; clear hb hbox hg; have hnb35 := NB233_223.out; have hnc35 := NB223_233.out; have hnb36 := NB233_229.out; have hnc36 := NB229_233.out; have hcz37_0 : w34.cell? ⟨gb233, 0, none⟩ = some (.int .i64 0) := (blk_cell BK233.out 0).trans rfl; have hcz37_1 : w34.cell? ⟨gb233, 1, none⟩ = some (.int .i64 0) := (blk_cell BK233.out 1).trans rfl; have hfz37_0 := blk_frozen BK233.out 0; have hfz37_1 := blk_frozen BK233.out 1) | ((with_reducible refine gate_callee (f := 18) rfl ?_); refine goesL_ (some 68) rfl rfl Try.func18 (by kernel_rfl) rfl #[.slice Ao15 t216.length co15, .int .i64 (wrap64 (t224 - 1)), .int .i64 96] rfl (by (try simp only [List.map_toArray, List.map_cons, List.map_nil]); first | done | rfl | (simp only [List.length_drop, List.length_take]; rfl)) ?_; (with_reducible refine (tempo_Place.calls kj8 _ _ t216 (wrap64 (t224 - 1)) 96 t234 t235 t236 _ ?side1 ?side2 A30.out).mono ?_); (case side1 => refine (Kd.R_reads' (e := 36) (base := w.heap.size) (ok := fun k_ => True) (n := t216.length) (c := co15) ?_).2.2; exact (by (with_reducible repeat (first | apply Kd.R_alloc | apply Kd.R_drewN | apply Kd.R_drew)); exact (Kd.R_mono (Kd.R_far (p := ⟨gb233, 1, none⟩) (Kd.R_far (p := ⟨gb233, 0, none⟩) (Kd.R_types HO_6.out BK233.out (by decide)) (fun _ hk => hk.2) (.int .i64 t230)) (fun _ hk => hk.2) (.int .i64 t231)) (fun _ h_ => h_.1)))); (case side2 => exact (Kd.R_reads' HO_6.out).2.1); rintro e w38 ⟨rfl, hb⟩; refine ⟨_, rfl, ?_⟩; have n0_ := Aside0.mk (Kd.R_below (by (with_reducible repeat (first | apply Kd.R_alloc | apply Kd.R_drewN | apply Kd.R_drew)); exact (Kd.R_mono (Kd.R_far (p := ⟨gb233, 1, none⟩) (Kd.R_far (p := ⟨gb233, 0, none⟩) (Kd.R_types HO_6.out BK233.out (by decide)) (fun _ hk => hk.2) (.int .i64 t230)) (fun _ hk => hk.2) (.int .i64 t231)) (fun _ h_ => h_.1))) hb); have n1_ := Aside0.mk (blk_below (g := gb223) (o := .cells #[.int .i64 t220, .int .i64 t221] 27 (0, 0)) (by (with_reducible repeat (first | refine blk_drewN ?_ _ | refine blk_drew ?_ | refine blk_alloc ?_ _)); refine blk_far ?_ NB223_233.out _; (with_reducible repeat (first | refine blk_drewN ?_ _ | refine blk_drew ?_ | refine blk_alloc ?_ _)); refine blk_far ?_ NB223_233.out _; (with_reducible repeat (first | refine blk_drewN ?_ _ | refine blk_drew ?_ | refine blk_alloc ?_ _)); exact BK223.out) hb); have n2_ := Aside0.mk (blk_below (g := gb229) (o := .cells #[.int .i64 t226, .int .i64 t227] 27 (0, 0)) (by (with_reducible repeat (first | refine blk_drewN ?_ _ | refine blk_drew ?_ | refine blk_alloc ?_ _)); refine blk_far ?_ NB229_233.out _; (with_reducible repeat (first | refine blk_drewN ?_ _ | refine blk_drew ?_ | refine blk_alloc ?_ _)); refine blk_far ?_ NB229_233.out _; (with_reducible repeat (first | refine blk_drewN ?_ _ | refine blk_drew ?_ | refine blk_alloc ?_ _)); exact BK229.out) hb); have n3_ := Aside0.mk (blk_below (g := gb233) (o := .cells #[.int .i64 t230, .int .i64 t231] 27 (0, 0)) (by (with_reducible repeat (first | refine blk_drewN ?_ _ | refine blk_drew ?_ | refine blk_alloc ?_ _)); refine blk_put (cs := #[.int .i64 t230, .int .i64 0]) ?_ 1 _ rfl; (with_reducible repeat (first | refine blk_drewN ?_ _ | refine blk_drew ?_ | refine blk_alloc ?_ _)); refine blk_put (cs := #[.int .i64 0, .int .i64 0]) ?_ 0 _ rfl; (with_reducible repeat (first | refine blk_drewN ?_ _ | refine blk_drew ?_ | refine blk_alloc ?_ _)); exact BK233.out) hb); have n4_ := Aside0.mk (below_step (by repeat (first | (with_reducible first | exact HB.out | apply below_alloc | apply pw_below_drewN | apply below_drew1 | refine below_set ?_ GE223.out | refine below_set ?_ GE229.out | refine below_set ?_ GE233.out) | exact HB.out)) hb); clear HO_6; clear BK223; clear BK229; clear BK233; clear HB; have HO_6 := n0_; have BK223 := n1_; have BK229 := n2_; have BK233 := n3_; have HB := n4_; clear n0_ n1_ n2_ n3_ n4_; (try clear hb); (try clear hb2); (try clear hk); (try clear hi)) | ((with_reducible refine gate_dst (N := 16) rfl ?_); refine box_event ?hg (N := 16) ?hd (cs := #[.int .i64 0, .int .i64 0]) (t := 27) ?hr ?_; (case hd => rfl); (case hg => rfl); (case hr => first | (go_simp; done) | (go_simp; rfl)); intro gb237 hg w39 hbox hb; have n0_ := Aside0.mk (Kd.R_below (by (with_reducible repeat (first | apply Kd.R_alloc | apply Kd.R_drewN | apply Kd.R_drew)); exact HO_6.out) hb); have n1_ := Aside0.mk (blk_below (g := gb223) (o := .cells #[.int .i64 t220, .int .i64 t221] 27 (0, 0)) (by (with_reducible repeat (first | refine blk_drewN ?_ _ | refine blk_drew ?_ | refine blk_alloc ?_ _)); exact BK223.out) hb); have n2_ := Aside0.mk (blk_below (g := gb229) (o := .cells #[.int .i64 t226, .int .i64 t227] 27 (0, 0)) (by (with_reducible repeat (first | refine blk_drewN ?_ _ | refine blk_drew ?_ | refine blk_alloc ?_ _)); exact BK229.out) hb); have n3_ := Aside0.mk (blk_below (g := gb233) (o := .cells #[.int .i64 t230, .int .i64 t231] 27 (0, 0)) (by (with_reducible repeat (first | refine blk_drewN ?_ _ | refine blk_drew ?_ | refine blk_alloc ?_ _)); exact BK233.out) hb); have n4_ := Aside0.mk (below_step (by repeat (first | (with_reducible first | exact HB.out | apply below_alloc | apply pw_below_drewN | apply below_drew1 | refine below_set ?_ GE223.out | refine below_set ?_ GE229.out | refine below_set ?_ GE233.out) | exact HB.out)) hb); have n5_ := Aside0.mk (hbox); have n6_ := Aside0.mk ((by rw [hg]; exact (below_size (by repeat (first | (with_reducible first | exact HB.out | apply below_alloc | apply pw_below_drewN | apply below_drew1 | refine below_set ?_ GE223.out | refine below_set ?_ GE229.out | refine below_set ?_ GE233.out) | exact HB.out))) : w.heap.size ≤ gb237)); have n7_ := Aside0.mk ((by rw [hg]; exact (below_size (by repeat (first | (with_reducible first | exact HB.out | apply below_alloc | apply pw_below_drewN | apply below_drew1 | refine below_set ?_ GE223.out | refine below_set ?_ GE229.out | refine below_set ?_ GE233.out) | exact HB.out))) : w.heap.size ≤ gb237)); have n8_ := Aside0.mk ((by rw [hg]; exact Nat.ne_of_lt (blk_lt (g := gb223) (o := .cells #[.int .i64 t220, .int .i64 t221] 27 (0, 0)) (by (with_reducible repeat (first | refine blk_drewN ?_ _ | refine blk_drew ?_ | refine blk_alloc ?_ _)); exact BK223.out)) : gb223 ≠ gb237)); have n9_ := Aside0.mk ((by rw [hg]; exact Nat.ne_of_gt (blk_lt (g := gb223) (o := .cells #[.int .i64 t220, .int .i64 t221] 27 (0, 0)) (by (with_reducible repeat (first | refine blk_drewN ?_ _ | refine blk_drew ?_ | refine blk_alloc ?_ _)); exact BK223.out)) : gb237 ≠ gb223)); have n10_ := Aside0.mk ((by rw [hg]; exact Nat.ne_of_lt (blk_lt (g := gb229) (o := .cells #[.int .i64 t226, .int .i64 t227] 27 (0, 0)) (by (with_reducible repeat (first | refine blk_drewN ?_ _ | refine blk_drew ?_ | refine blk_alloc ?_ _)); exact BK229.out)) : gb229 ≠ gb237)); have n11_ := Aside0.mk ((by rw [hg]; exact Nat.ne_of_gt (blk_lt (g := gb229) (o := .cells #[.int .i64 t226, .int .i64 t227] 27 (0, 0)) (by (with_reducible repeat (first | refine blk_drewN ?_ _ | refine blk_drew ?_ | refine blk_alloc ?_ _)); exact BK229.out)) : gb237 ≠ gb229)); have n12_ := Aside0.mk ((by rw [hg]; exact Nat.ne_of_lt (blk_lt (g := gb233) (o := .cells #[.int .i64 t230, .int .i64 t231] 27 (0, 0)) (by (with_reducible repeat (first | refine blk_drewN ?_ _ | refine blk_drew ?_ | refine blk_alloc ?_ _)); exact BK233.out)) : gb233 ≠ gb237)); have n13_ := Aside0.mk ((by rw [hg]; exact Nat.ne_of_gt (blk_lt (g := gb233) (o := .cells #[.int .i64 t230, .int .i64 t231] 27 (0, 0)) (by (with_reducible repeat (first | refine blk_drewN ?_ _ | refine blk_drew ?_ | refine blk_alloc ?_ _)); exact BK233.out)) : gb237 ≠ gb233)); clear HO_6; clear BK223; clear BK229; clear BK233; clear HB; have HO_6 := n0_; have BK223 := n1_; have BK229 := n2_; have BK233 := n3_; have HB := n4_; have BK237 := n5_; have GW237 := n6_; have GE237 := n7_; have NB223_237 := n8_; have NB237_223 := n9_; have NB229_237 := n10_; have NB237_229 := n11_; have NB233_237 := n12_; have NB237_233 := n13_; clear n0_ n1_ n2_ n3_ n4_ n5_ n6_ n7_ n8_ n9_ n10_ n11_ n12_ n13_; clear hb hbox hg; have hnb40 := NB237_223.out; have hnc40 := NB223_237.out; have hnb41 := NB237_229.out; have hnc41 := NB229_237.out; have hnb42 := NB237_233.out; have hnc42 := NB233_237.out; have hcz43_0 : w39.cell? ⟨gb237, 0, none⟩ = some (.int .i64 0) := (blk_cell BK237.out 0).trans rfl; have hcz43_1 : w39.cell? ⟨gb237, 1, none⟩ = some (.int .i64 0) := (blk_cell BK237.out 1).trans rfl; have hfz43_0 := blk_frozen BK237.out 0; have hfz43_1 := blk_frozen BK237.out 1; have hcz44_0 : w39.cell? ⟨gb233, 0, none⟩ = some (.int .i64 t230) := (blk_cell BK233.out 0).trans rfl; have hcz44_1 : w39.cell? ⟨gb233, 1, none⟩ = some (.int .i64 t231) := (blk_cell BK233.out 1).trans rfl; have hfz44_0 := blk_frozen BK233.out 0; have hfz44_1 := blk_frozen BK233.out 1))
              go_ret
              exact ⟨by first | rfl | (simp [errW_none, errW_some] <;> rfl) | (simp [*, errW_none, errW_some] <;> rfl), by repeat (first | (with_reducible first | exact HB.out | apply below_alloc | apply pw_below_drewN | apply below_drew1 | refine below_set ?_ GE223.out | refine below_set ?_ GE229.out | refine below_set ?_ GE233.out | refine below_set ?_ GE237.out) | exact HB.out)⟩
            · rw [if_neg c32] at H
              cases H
          · replace c31 := Bool.eq_false_iff.mpr c31
            subst c31
            have H1 : none = some r := by rw [if_neg (show ¬ (false = true) by decide)] at H; exact H
            cases H1
end Go.Proofs.Ytchjlkokfgmjaaa.Q
