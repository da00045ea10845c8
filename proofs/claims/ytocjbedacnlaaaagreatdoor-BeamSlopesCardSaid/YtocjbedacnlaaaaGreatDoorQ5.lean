-- Written by a program of this session (myprint.py), function by function.
import Derived.Test.YtocjbedacnlaaaaGreatDoorQ0
import Derived.Test.YtocjbedacnlaaaaGreatDoorQ3
import Derived.Test.YtocjbedacnlaaaaGreatDoorQ4
import Derived.Test.YtocjbedacnlaaaaGreatDoorHandA
import Derived.Test.YtocjbedacnlaaaaGreatDoorSmallMost
namespace Go.Proofs.YtocjbedacnlaaaaGreatDoor.Q
open Go.RowKit Go.Proofs.YtocjbedacnlaaaaGreatDoorW.PrintWords Go.Proofs.YtocjbedacnlaaaaGreatDoorW.PrintLast Go.Proofs.YtocjbedacnlaaaaGreatDoorW.PrintMore
attribute [local go_sem] max2_int min2_int max_two min_two max_three min_three max_four min_four   -- for this text's walks alone
set_option linter.unusedVariables false
set_option linter.unusedSimpArgs false

/-! ### event_Right: function 80 -/
mutual
def event_Right.j0 : Nat → Bool → Int → List (S43) → List Bool → Int → Int → Int → Int → List Int → ByteArray → Option (Bool)
 | 0, _, _, _, _, _, _, _, _, _, _ => none
 | k + 1, x29, x140000, x140001, x140002, x140003, x140004, x140005, x140006, x140007, x140008 => if x29 = true then (some false) else (if x140000 = 0 then (if (x140001.length : Int) = 0 then (if x140008.toList = ([] : List UInt8) then ((event_Right_1.f x140007).bind fun t143 => (some (!t143))) else (some false)) else (some false)) else (if x140000 = 1 then (if (x140001.length : Int) < 1 then (event_Right.j1 k true x140000 x140001 x140002 x140003 x140004 x140005 x140006 x140007 x140008) else (event_Right.j1 k (decide ((x140001.length : Int) > 8)) x140000 x140001 x140002 x140003 x140004 x140005 x140006 x140007 x140008)) else (event_Right.j1 k true x140000 x140001 x140002 x140003 x140004 x140005 x140006 x140007 x140008)))
def event_Right.j1 : Nat → Bool → Int → List (S43) → List Bool → Int → Int → Int → Int → List Int → ByteArray → Option (Bool)
 | 0, _, _, _, _, _, _, _, _, _, _ => none
 | k + 1, x62, x140000, x140001, x140002, x140003, x140004, x140005, x140006, x140007, x140008 => if x62 = true then (some false) else (event_Right.l0 k x140001 (x140001.length : Int) 0 x140000 x140001 x140002 x140003 x140004 x140005 x140006 x140007 x140008)
def event_Right.l0 : Nat → List (S43) → Int → Int → Int → List (S43) → List Bool → Int → Int → Int → Int → List Int → ByteArray → Option (Bool)
 | 0, _, _, _, _, _, _, _, _, _, _, _, _ => none
 | k + 1, x64, x65, x66, x140000, x140001, x140002, x140003, x140004, x140005, x140006, x140007, x140008 => if x66 < x65 then (if 0 ≤ x66 then (if x66 < (x64.length : Int) then ((pitch_Right.f ((rd_T43 x64 x66).f0) ((rd_T43 x64 x66).f1) ((rd_T43 x64 x66).f2)).bind fun t146 => (if t146 = true then (event_Right.l0 k x64 x65 (wrap64 (x66 + 1)) x140000 x140001 x140002 x140003 x140004 x140005 x140006 x140007 x140008) else (some false))) else (none)) else (none)) else ((event_Right_2.f k x140001).bind fun t147 => (some t147))
end
def event_Right.f (k : Nat) (a0_0 : Int) (l0_1 : List (S43)) (l0_2 : List Bool) (a0_3 : Int) (a0_4 : Int) (a0_5 : Int) (a0_6 : Int) (l0_7 : List Int) (a0_8 : ByteArray) : Option (Bool) := (value_Right.f k a0_3 a0_4 a0_5 a0_6).bind fun t140 => (if t140 = true then ((event_plain.f a0_8).bind fun t141 => (if t141 = true then ((event_marked.f k l0_7).bind fun t142 => (if t142 = true then (event_Right.j0 k ((l0_2.length : Int) != (l0_1.length : Int)) a0_0 l0_1 l0_2 a0_3 a0_4 a0_5 a0_6 l0_7 a0_8) else (event_Right.j0 k true a0_0 l0_1 l0_2 a0_3 a0_4 a0_5 a0_6 l0_7 a0_8))) else (event_Right.j0 k true a0_0 l0_1 l0_2 a0_3 a0_4 a0_5 a0_6 l0_7 a0_8))) else (event_Right.j0 k true a0_0 l0_1 l0_2 a0_3 a0_4 a0_5 a0_6 l0_7 a0_8))
theorem event_Right.mono_l : ∀ k, (∀ y0 y1 y2 y3 y4 y5 y6 y7 y8 y9, LeO (event_Right.j0 k y0 y1 y2 y3 y4 y5 y6 y7 y8 y9) (event_Right.j0 (k + 1) y0 y1 y2 y3 y4 y5 y6 y7 y8 y9)) ∧ (∀ y0 y1 y2 y3 y4 y5 y6 y7 y8 y9, LeO (event_Right.j1 k y0 y1 y2 y3 y4 y5 y6 y7 y8 y9) (event_Right.j1 (k + 1) y0 y1 y2 y3 y4 y5 y6 y7 y8 y9)) ∧ (∀ y0 y1 y2 y3 y4 y5 y6 y7 y8 y9 y10 y11, LeO (event_Right.l0 k y0 y1 y2 y3 y4 y5 y6 y7 y8 y9 y10 y11) (event_Right.l0 (k + 1) y0 y1 y2 y3 y4 y5 y6 y7 y8 y9 y10 y11))
 | 0 => ⟨fun _ _ _ _ _ _ _ _ _ _ r h => by simp [event_Right.j0] at h, fun _ _ _ _ _ _ _ _ _ _ r h => by simp [event_Right.j1] at h, fun _ _ _ _ _ _ _ _ _ _ _ _ r h => by simp [event_Right.l0] at h⟩
 | k + 1 => by
  obtain ⟨ih0, ih1, ih2⟩ := event_Right.mono_l k
  refine ⟨?_, ?_, ?_⟩
  · intro y0 y1 y2 y3 y4 y5 y6 y7 y8 y9
    unfold event_Right.j0
    repeat' first
    | (with_reducible exact ih0 _ _ _ _ _ _ _ _ _ _)
    | (with_reducible exact ih1 _ _ _ _ _ _ _ _ _ _)
    | (with_reducible exact ih2 _ _ _ _ _ _ _ _ _ _ _ _)
    | (with_reducible exact event_Right_2.mono _ _)
    | (with_reducible exact event_marked.mono _ _)
    | (with_reducible exact value_Right.mono _ _ _ _ _)
    | (with_reducible exact LeO.refl _)
    | (with_reducible exact LeO.none _)
    | (with_reducible refine LeO.ite ?_ ?_)
    | (with_reducible refine LeO.bind ?_ (fun _ => ?_))
    | exact ih0 _ _ _ _ _ _ _ _ _ _
    | exact ih1 _ _ _ _ _ _ _ _ _ _
    | exact ih2 _ _ _ _ _ _ _ _ _ _ _ _
    | exact event_Right_2.mono _ _
    | exact event_marked.mono _ _
    | exact value_Right.mono _ _ _ _ _
    | exact LeO.none _
    | refine LeO.ite ?_ ?_
    | refine LeO.bind ?_ (fun _ => ?_)
  · intro y0 y1 y2 y3 y4 y5 y6 y7 y8 y9
    unfold event_Right.j1
    repeat' first
    | (with_reducible exact ih0 _ _ _ _ _ _ _ _ _ _)
    | (with_reducible exact ih1 _ _ _ _ _ _ _ _ _ _)
    | (with_reducible exact ih2 _ _ _ _ _ _ _ _ _ _ _ _)
    | (with_reducible exact event_Right_2.mono _ _)
    | (with_reducible exact event_marked.mono _ _)
    | (with_reducible exact value_Right.mono _ _ _ _ _)
    | (with_reducible exact LeO.refl _)
    | (with_reducible exact LeO.none _)
    | (with_reducible refine LeO.ite ?_ ?_)
    | (with_reducible refine LeO.bind ?_ (fun _ => ?_))
    | exact ih0 _ _ _ _ _ _ _ _ _ _
    | exact ih1 _ _ _ _ _ _ _ _ _ _
    | exact ih2 _ _ _ _ _ _ _ _ _ _ _ _
    | exact event_Right_2.mono _ _
    | exact event_marked.mono _ _
    | exact value_Right.mono _ _ _ _ _
    | exact LeO.none _
    | refine LeO.ite ?_ ?_
    | refine LeO.bind ?_ (fun _ => ?_)
  · intro y0 y1 y2 y3 y4 y5 y6 y7 y8 y9 y10 y11
    unfold event_Right.l0
    repeat' first
    | (with_reducible exact ih0 _ _ _ _ _ _ _ _ _ _)
    | (with_reducible exact ih1 _ _ _ _ _ _ _ _ _ _)
    | (with_reducible exact ih2 _ _ _ _ _ _ _ _ _ _ _ _)
    | (with_reducible exact event_Right_2.mono _ _)
    | (with_reducible exact event_marked.mono _ _)
    | (with_reducible exact value_Right.mono _ _ _ _ _)
    | (with_reducible exact LeO.refl _)
    | (with_reducible exact LeO.none _)
    | (with_reducible refine LeO.ite ?_ ?_)
    | (with_reducible refine LeO.bind ?_ (fun _ => ?_))
    | exact ih0 _ _ _ _ _ _ _ _ _ _
    | exact ih1 _ _ _ _ _ _ _ _ _ _
    | exact ih2 _ _ _ _ _ _ _ _ _ _ _ _
    | exact event_Right_2.mono _ _
    | exact event_marked.mono _ _
    | exact value_Right.mono _ _ _ _ _
    | exact LeO.none _
    | refine LeO.ite ?_ ?_
    | refine LeO.bind ?_ (fun _ => ?_)
theorem event_Right.mono : ∀ a0 a1 a2 a3 a4 a5 a6 a7 a8 k, LeO (event_Right.f k a0 a1 a2 a3 a4 a5 a6 a7 a8) (event_Right.f (k + 1) a0 a1 a2 a3 a4 a5 a6 a7 a8) := by
 intro a0 a1 a2 a3 a4 a5 a6 a7 a8 k
 obtain ⟨ih0, ih1, ih2⟩ := event_Right.mono_l k
 unfold event_Right.f
 repeat' first
  | (with_reducible exact ih0 _ _ _ _ _ _ _ _ _ _)
  | (with_reducible exact ih1 _ _ _ _ _ _ _ _ _ _)
  | (with_reducible exact ih2 _ _ _ _ _ _ _ _ _ _ _ _)
  | (with_reducible exact event_Right_2.mono _ _)
  | (with_reducible exact event_marked.mono _ _)
  | (with_reducible exact value_Right.mono _ _ _ _ _)
  | (with_reducible exact LeO.refl _)
  | (with_reducible exact LeO.none _)
  | (with_reducible refine LeO.ite ?_ ?_)
  | (with_reducible refine LeO.bind ?_ (fun _ => ?_))
  | exact ih0 _ _ _ _ _ _ _ _ _ _
  | exact ih1 _ _ _ _ _ _ _ _ _ _
  | exact ih2 _ _ _ _ _ _ _ _ _ _ _ _
  | exact event_Right_2.mono _ _
  | exact event_marked.mono _ _
  | exact value_Right.mono _ _ _ _ _
  | exact LeO.none _
  | refine LeO.ite ?_ ?_
  | refine LeO.bind ?_ (fun _ => ?_)
set_option maxHeartbeats 8000000 in
set_option maxRecDepth 100000 in
theorem event_Right.calls (k : Nat) (a0_0 : Int) (A0_1 : Option Addr) (c0_1 : Nat) (l0_1 : List (S43)) (A0_2 : Option Addr) (c0_2 : Nat) (l0_2 : List Bool) (a0_3 : Int) (a0_4 : Int) (a0_5 : Int) (a0_6 : Int) (A0_7 : Option Addr) (c0_7 : Nat) (l0_7 : List Int) (a0_8 : ByteArray) (r : Bool) (w : World) (hr0_1 : Kd.C k43 w A0_1 l0_1.length l0_1) (hc0_1 : l0_1.length ≤ c0_1) (hr0_2 : Kd.C Kd.bool w A0_2 l0_2.length l0_2) (hc0_2 : l0_2.length ≤ c0_2) (hr0_7 : Kd.C (Kd.int .i64) w A0_7 l0_7.length l0_7) (hc0_7 : l0_7.length ≤ c0_7) (h : event_Right.f k a0_0 l0_1 l0_2 a0_3 a0_4 a0_5 a0_6 l0_7 a0_8 = some r) (SENTS : Aside0 (SentsE w) := by exact sents_step (by assumption) (by repeat (first | (with_reducible first | exact (by assumption : Aside0 (Below _ _ _)).out | apply below_alloc | apply pw_below_drewN | apply below_drew1 | refine below_set ?_ (Aside0.out (by assumption)))))) :
 Calls Tryz.prog 80 #[.agg #[.int .i64 a0_0, .slice A0_1 l0_1.length c0_1, .slice A0_2 l0_2.length c0_2, .int .i64 a0_3, .int .i64 a0_4, .int .i64 a0_5, .int .i64 a0_6, .slice A0_7 l0_7.length c0_7, .string a0_8]] w fun e w' => e = .returned (.bool r) ∧ Below w.heap.size w w' := by
 have hu41 := Tryz.underlying41
 have hu39 := Tryz.underlying39
 have hu43 := Tryz.underlying43
 have HR0_1 := Aside0.mk hr0_1
 have HC0_1 := Aside0.mk hc0_1
 clear hr0_1 hc0_1
 have HR0_2 := Aside0.mk hr0_2
 have HC0_2 := Aside0.mk hc0_2
 clear hr0_2 hc0_2
 have HR0_7 := Aside0.mk hr0_7
 have HC0_7 := Aside0.mk hc0_7
 clear hr0_7 hc0_7
 have HB := Aside0.mk (Below.refl w.heap.size w)
 have H : ((value_Right.f k a0_3 a0_4 a0_5 a0_6).bind fun t140 => (if t140 = true then ((event_plain.f a0_8).bind fun t141 => (if t141 = true then ((event_marked.f k l0_7).bind fun t142 => (if t142 = true then (event_Right.j0 k ((l0_2.length : Int) != (l0_1.length : Int)) a0_0 l0_1 l0_2 a0_3 a0_4 a0_5 a0_6 l0_7 a0_8) else (event_Right.j0 k true a0_0 l0_1 l0_2 a0_3 a0_4 a0_5 a0_6 l0_7 a0_8))) else (event_Right.j0 k true a0_0 l0_1 l0_2 a0_3 a0_4 a0_5 a0_6 l0_7 a0_8))) else (event_Right.j0 k true a0_0 l0_1 l0_2 a0_3 a0_4 a0_5 a0_6 l0_7 a0_8))) = some r := h
 clear h
 have HC2 := Aside0.mk H
 clear H
 go_enter Tryz.func80, Tryz.ntmps80
 go_upto_region 1 with (first | ((with_reducible refine gate_dst (N := 1) rfl ?_); (try (refine gate_guard (by rfl) ?_; dsimp only)); refine box_event ?hg (N := 1) ?hd (cs := #[.int .i64 a0_0, .slice A0_1 l0_1.length c0_1, .slice A0_2 l0_2.length c0_2, .int .i64 a0_3, .int .i64 a0_4, .int .i64 a0_5, .int .i64 a0_6, .slice A0_7 l0_7.length c0_7, .string a0_8]) (t := 41) ?hr ?_; (case hd => rfl); (case hg => rfl); (case hr => first | (go_simp; done) | (go_simp; rfl)); intro gb139 hg w3 hbox hb; have BK139 := Aside0.mk (hbox); have GW139 := qT HB hg; have GE139 := qS HB hg; replace HB := Aside0.mk (below_step (qW HB.out) hb); clear hb hbox hg))
 (try simp only [Act.put, qa_, qz_, qs_])
 go_cut [29] (fun v29 wc => ∃ (kq : Nat) (x29_1 : Bool), v29 = .bool x29_1 ∧ Aside0 (event_Right.j0 kq x29_1 a0_0 l0_1 l0_2 a0_3 a0_4 a0_5 a0_6 l0_7 a0_8 = some r) ∧ Aside0 (kq ≤ k) ∧ Aside0 (wc.heap[gb139]? = some (.cells #[.int .i64 a0_0, (.slice A0_1 l0_1.length c0_1), (.slice A0_2 l0_2.length c0_2), .int .i64 a0_3, .int .i64 a0_4, .int .i64 a0_5, .int .i64 a0_6, (.slice A0_7 l0_7.length c0_7), .string a0_8] 41 (0, 0))) ∧ Aside0 (Below w.heap.size w wc))
 case first =>
  have H := HC2.out
  clear HC2
  replace H := Option.bind_eq_some_iff.mp H
  obtain ⟨t140, A40, H⟩ := H
  replace H : (if t140 = true then ((event_plain.f a0_8).bind fun t141 => (if t141 = true then ((event_marked.f k l0_7).bind fun t142 => (if t142 = true then (event_Right.j0 k ((l0_2.length : Int) != (l0_1.length : Int)) a0_0 l0_1 l0_2 a0_3 a0_4 a0_5 a0_6 l0_7 a0_8) else (event_Right.j0 k true a0_0 l0_1 l0_2 a0_3 a0_4 a0_5 a0_6 l0_7 a0_8))) else (event_Right.j0 k true a0_0 l0_1 l0_2 a0_3 a0_4 a0_5 a0_6 l0_7 a0_8))) else (event_Right.j0 k true a0_0 l0_1 l0_2 a0_3 a0_4 a0_5 a0_6 l0_7 a0_8)) = some r := H
  have A4 := Aside0.mk A40
  clear A40
  by_cases c5 : t140 = true
  · subst c5
    have H1 : ((event_plain.f a0_8).bind fun t141 => (if t141 = true then ((event_marked.f k l0_7).bind fun t142 => (if t142 = true then (event_Right.j0 k ((l0_2.length : Int) != (l0_1.length : Int)) a0_0 l0_1 l0_2 a0_3 a0_4 a0_5 a0_6 l0_7 a0_8) else (event_Right.j0 k true a0_0 l0_1 l0_2 a0_3 a0_4 a0_5 a0_6 l0_7 a0_8))) else (event_Right.j0 k true a0_0 l0_1 l0_2 a0_3 a0_4 a0_5 a0_6 l0_7 a0_8))) = some r := by rw [if_pos rfl] at H; exact H
    clear H
    have H := H1
    clear H1
    replace H := Option.bind_eq_some_iff.mp H
    obtain ⟨t141, A60, H⟩ := H
    replace H : (if t141 = true then ((event_marked.f k l0_7).bind fun t142 => (if t142 = true then (event_Right.j0 k ((l0_2.length : Int) != (l0_1.length : Int)) a0_0 l0_1 l0_2 a0_3 a0_4 a0_5 a0_6 l0_7 a0_8) else (event_Right.j0 k true a0_0 l0_1 l0_2 a0_3 a0_4 a0_5 a0_6 l0_7 a0_8))) else (event_Right.j0 k true a0_0 l0_1 l0_2 a0_3 a0_4 a0_5 a0_6 l0_7 a0_8)) = some r := H
    have A6 := Aside0.mk A60
    clear A60
    by_cases c7 : t141 = true
    · subst c7
      have H1 : ((event_marked.f k l0_7).bind fun t142 => (if t142 = true then (event_Right.j0 k ((l0_2.length : Int) != (l0_1.length : Int)) a0_0 l0_1 l0_2 a0_3 a0_4 a0_5 a0_6 l0_7 a0_8) else (event_Right.j0 k true a0_0 l0_1 l0_2 a0_3 a0_4 a0_5 a0_6 l0_7 a0_8))) = some r := by rw [if_pos rfl] at H; exact H
      clear H
      have H := H1
      clear H1
      replace H := Option.bind_eq_some_iff.mp H
      obtain ⟨t142, A80, H⟩ := H
      replace H : (if t142 = true then (event_Right.j0 k ((l0_2.length : Int) != (l0_1.length : Int)) a0_0 l0_1 l0_2 a0_3 a0_4 a0_5 a0_6 l0_7 a0_8) else (event_Right.j0 k true a0_0 l0_1 l0_2 a0_3 a0_4 a0_5 a0_6 l0_7 a0_8)) = some r := H
      have A8 := Aside0.mk A80
      clear A80
      by_cases c9 : t142 = true
      · subst c9
        have H1 : (event_Right.j0 k ((l0_2.length : Int) != (l0_1.length : Int)) a0_0 l0_1 l0_2 a0_3 a0_4 a0_5 a0_6 l0_7 a0_8) = some r := by rw [if_pos rfl] at H; exact H
        clear H
        have H := H1
        clear H1
        have H' := Aside0.mk H
        clear H
        have hcz10_0 := qC BK139 0 rfl
        have hcz10_1 := qC BK139 1 rfl
        have hcz10_2 := qC BK139 2 rfl
        have hcz10_3 := qC BK139 3 rfl
        have hcz10_4 := qC BK139 4 rfl
        have hcz10_5 := qC BK139 5 rfl
        have hcz10_6 := qC BK139 6 rfl
        have hcz10_7 := qC BK139 7 rfl
        have hcz10_8 := qC BK139 8 rfl
        have hfz10_0 := blk_frozen BK139.out 0
        have hfz10_1 := blk_frozen BK139.out 1
        have hfz10_2 := blk_frozen BK139.out 2
        have hfz10_3 := blk_frozen BK139.out 3
        have hfz10_4 := blk_frozen BK139.out 4
        have hfz10_5 := blk_frozen BK139.out 5
        have hfz10_6 := blk_frozen BK139.out 6
        have hfz10_7 := blk_frozen BK139.out 7
        have hfz10_8 := blk_frozen BK139.out 8
        go_wp2_with (first | ((with_reducible refine gate_callee (f := 95) rfl ?_); refine goesL_ (some 7) rfl rfl Tryz.func95 (by kernel_rfl) rfl #[.agg #[.int .i64 a0_3, .int .i64 a0_4, .int .i64 a0_5, .int .i64 a0_6]] rfl (by (try simp only [List.map_toArray, List.map_cons, List.map_nil]); first | done | rfl | (simp only [List.length_drop, List.length_take]; rfl)) ?_; (with_reducible refine (value_Right.calls k a0_3 a0_4 a0_5 a0_6 true _ A4.out).mono ?_); rintro e w11 ⟨rfl, hb⟩; refine ⟨_, rfl, ?_⟩; replace BK139 := qD BK139 hb; replace HB := Aside0.mk (below_step (qW HB.out) hb); (try clear hb); (try clear hb2); (try clear hk); (try clear hi); have hcz12_0 := qC BK139 0 rfl; have hcz12_1 := qC BK139 1 rfl; have hcz12_2 := qC BK139 2 rfl; have hcz12_3 := qC BK139 3 rfl; have hcz12_4 := qC BK139 4 rfl; have hcz12_5 := qC BK139 5 rfl; have hcz12_6 := qC BK139 6 rfl; have hcz12_7 := qC BK139 7 rfl; have hcz12_8 := qC BK139 8 rfl; have hfz12_0 := blk_frozen BK139.out 0; have hfz12_1 := blk_frozen BK139.out 1; have hfz12_2 := blk_frozen BK139.out 2; have hfz12_3 := blk_frozen BK139.out 3; have hfz12_4 := blk_frozen BK139.out 4; have hfz12_5 := blk_frozen BK139.out 5; have hfz12_6 := blk_frozen BK139.out 6; have hfz12_7 := blk_frozen BK139.out 7; have hfz12_8 := blk_frozen BK139.out 8) | (go_at_call 96; (with_reducible refine (event_plain.calls a0_8 true _ A6.out).mono ?_); rintro e w13 ⟨rfl, hb⟩; replace BK139 := qD BK139 hb; replace HB := Aside0.mk (below_step (qW HB.out) hb); (try clear hb); (try clear hb2); (try clear hk); (try clear hi); have hcz14_0 := qC BK139 0 rfl; have hcz14_1 := qC BK139 1 rfl; have hcz14_2 := qC BK139 2 rfl; have hcz14_3 := qC BK139 3 rfl; have hcz14_4 := qC BK139 4 rfl; have hcz14_5 := qC BK139 5 rfl; have hcz14_6 := qC BK139 6 rfl; have hcz14_7 := qC BK139 7 rfl; have hcz14_8 := qC BK139 8 rfl; have hfz14_0 := blk_frozen BK139.out 0; have hfz14_1 := blk_frozen BK139.out 1; have hfz14_2 := blk_frozen BK139.out 2; have hfz14_3 := blk_frozen BK139.out 3; have hfz14_4 := blk_frozen BK139.out 4; have hfz14_5 := blk_frozen BK139.out 5; have hfz14_6 := blk_frozen BK139.out 6; have hfz14_7 := blk_frozen BK139.out 7; have hfz14_8 := blk_frozen BK139.out 8) | (go_at_call 97; (with_reducible refine (event_marked.calls k _ _ l0_7 true _ ?side1 ?side2 A8.out).mono ?_); (case side1 => repeat (first | exact (Kd.C_below HR0_7.out HB.out) | (with_reducible refine Kd.C_alloc ?_ _) | (with_reducible refine Kd.C_drewN ?_ _) | (with_reducible refine Kd.C_drew ?_))); (case side2 => exact HC0_7.out); rintro e w15 ⟨rfl, hb⟩; replace BK139 := qD BK139 hb; replace HB := Aside0.mk (below_step (qW HB.out) hb); (try clear hb); (try clear hb2); (try clear hk); (try clear hi); have hcz16_0 := qC BK139 0 rfl; have hcz16_1 := qC BK139 1 rfl; have hcz16_2 := qC BK139 2 rfl; have hcz16_3 := qC BK139 3 rfl; have hcz16_4 := qC BK139 4 rfl; have hcz16_5 := qC BK139 5 rfl; have hcz16_6 := qC BK139 6 rfl; have hcz16_7 := qC BK139 7 rfl; have hcz16_8 := qC BK139 8 rfl; have hfz16_0 := blk_frozen BK139.out 0; have hfz16_1 := blk_frozen BK139.out 1; have hfz16_2 := blk_frozen BK139.out 2; have hfz16_3 := blk_frozen BK139.out 3; have hfz16_4 := blk_frozen BK139.out 4; have hfz16_5 := blk_frozen BK139.out 5; have hfz16_6 := blk_frozen BK139.out 6; have hfz16_7 := blk_frozen BK139.out 7; have hfz16_8 := blk_frozen BK139.out 8))
        go_meet
        case rel => exact ⟨_, (((l0_2.length : Int) != (l0_1.length : Int))), (by first | rfl | (simp; done) | (simp [*]; done) | (simp [wrap64]; done)), H', ⟨by first | omega | exact Nat.le_refl _⟩, ⟨by (with_reducible repeat (first | refine blk_drewN ?_ _ | refine blk_drew ?_ | refine blk_alloc ?_ _)); exact BK139.out⟩, ⟨by exact qW HB.out⟩⟩
      · replace c9 := Bool.eq_false_iff.mpr c9
        subst c9
        have H1 : (event_Right.j0 k true a0_0 l0_1 l0_2 a0_3 a0_4 a0_5 a0_6 l0_7 a0_8) = some r := by rw [if_neg (show ¬ (false = true) by decide)] at H; exact H
        clear H
        have H := H1
        clear H1
        have H' := Aside0.mk H
        clear H
        have hcz17_0 := qC BK139 0 rfl
        have hcz17_1 := qC BK139 1 rfl
        have hcz17_2 := qC BK139 2 rfl
        have hcz17_3 := qC BK139 3 rfl
        have hcz17_4 := qC BK139 4 rfl
        have hcz17_5 := qC BK139 5 rfl
        have hcz17_6 := qC BK139 6 rfl
        have hcz17_7 := qC BK139 7 rfl
        have hcz17_8 := qC BK139 8 rfl
        have hfz17_0 := blk_frozen BK139.out 0
        have hfz17_1 := blk_frozen BK139.out 1
        have hfz17_2 := blk_frozen BK139.out 2
        have hfz17_3 := blk_frozen BK139.out 3
        have hfz17_4 := blk_frozen BK139.out 4
        have hfz17_5 := blk_frozen BK139.out 5
        have hfz17_6 := blk_frozen BK139.out 6
        have hfz17_7 := blk_frozen BK139.out 7
        have hfz17_8 := blk_frozen BK139.out 8
        go_wp2_with (first | ((with_reducible refine gate_callee (f := 95) rfl ?_); refine goesL_ (some 7) rfl rfl Tryz.func95 (by kernel_rfl) rfl #[.agg #[.int .i64 a0_3, .int .i64 a0_4, .int .i64 a0_5, .int .i64 a0_6]] rfl (by (try simp only [List.map_toArray, List.map_cons, List.map_nil]); first | done | rfl | (simp only [List.length_drop, List.length_take]; rfl)) ?_; (with_reducible refine (value_Right.calls k a0_3 a0_4 a0_5 a0_6 true _ A4.out).mono ?_); rintro e w18 ⟨rfl, hb⟩; refine ⟨_, rfl, ?_⟩; replace BK139 := qD BK139 hb; replace HB := Aside0.mk (below_step (qW HB.out) hb); (try clear hb); (try clear hb2); (try clear hk); (try clear hi); have hcz19_0 := qC BK139 0 rfl; have hcz19_1 := qC BK139 1 rfl; have hcz19_2 := qC BK139 2 rfl; have hcz19_3 := qC BK139 3 rfl; have hcz19_4 := qC BK139 4 rfl; have hcz19_5 := qC BK139 5 rfl; have hcz19_6 := qC BK139 6 rfl; have hcz19_7 := qC BK139 7 rfl; have hcz19_8 := qC BK139 8 rfl; have hfz19_0 := blk_frozen BK139.out 0; have hfz19_1 := blk_frozen BK139.out 1; have hfz19_2 := blk_frozen BK139.out 2; have hfz19_3 := blk_frozen BK139.out 3; have hfz19_4 := blk_frozen BK139.out 4; have hfz19_5 := blk_frozen BK139.out 5; have hfz19_6 := blk_frozen BK139.out 6; have hfz19_7 := blk_frozen BK139.out 7; have hfz19_8 := blk_frozen BK139.out 8) | (go_at_call 96; (with_reducible refine (event_plain.calls a0_8 true _ A6.out).mono ?_); rintro e w20 ⟨rfl, hb⟩; replace BK139 := qD BK139 hb; replace HB := Aside0.mk (below_step (qW HB.out) hb); (try clear hb); (try clear hb2); (try clear hk); (try clear hi); have hcz21_0 := qC BK139 0 rfl; have hcz21_1 := qC BK139 1 rfl; have hcz21_2 := qC BK139 2 rfl; have hcz21_3 := qC BK139 3 rfl; have hcz21_4 := qC BK139 4 rfl; have hcz21_5 := qC BK139 5 rfl; have hcz21_6 := qC BK139 6 rfl; have hcz21_7 := qC BK139 7 rfl; have hcz21_8 := qC BK139 8 rfl; have hfz21_0 := blk_frozen BK139.out 0; have hfz21_1 := blk_frozen BK139.out 1; have hfz21_2 := blk_frozen BK139.out 2; have hfz21_3 := blk_frozen BK139.out 3; have hfz21_4 := blk_frozen BK139.out 4; have hfz21_5 := blk_frozen BK139.out 5; have hfz21_6 := blk_frozen BK139.out 6; have hfz21_7 := blk_frozen BK139.out 7; have hfz21_8 := blk_frozen BK139.out 8) | (go_at_call 97; (with_reducible refine (event_marked.calls k _ _ l0_7 false _ ?side1 ?side2 A8.out).mono ?_); (case side1 => repeat (first | exact (Kd.C_below HR0_7.out HB.out) | (with_reducible refine Kd.C_alloc ?_ _) | (with_reducible refine Kd.C_drewN ?_ _) | (with_reducible refine Kd.C_drew ?_))); (case side2 => exact HC0_7.out); rintro e w22 ⟨rfl, hb⟩; replace BK139 := qD BK139 hb; replace HB := Aside0.mk (below_step (qW HB.out) hb); (try clear hb); (try clear hb2); (try clear hk); (try clear hi)))
        go_meet
        case rel => exact ⟨_, (true), (by first | rfl | (simp; done) | (simp [*]; done) | (simp [wrap64]; done)), H', ⟨by first | omega | exact Nat.le_refl _⟩, ⟨by (with_reducible repeat (first | refine blk_drewN ?_ _ | refine blk_drew ?_ | refine blk_alloc ?_ _)); exact BK139.out⟩, ⟨by exact qW HB.out⟩⟩
    · replace c7 := Bool.eq_false_iff.mpr c7
      subst c7
      have H1 : (event_Right.j0 k true a0_0 l0_1 l0_2 a0_3 a0_4 a0_5 a0_6 l0_7 a0_8) = some r := by rw [if_neg (show ¬ (false = true) by decide)] at H; exact H
      clear H
      have H := H1
      clear H1
      have H' := Aside0.mk H
      clear H
      have hcz23_0 := qC BK139 0 rfl
      have hcz23_1 := qC BK139 1 rfl
      have hcz23_2 := qC BK139 2 rfl
      have hcz23_3 := qC BK139 3 rfl
      have hcz23_4 := qC BK139 4 rfl
      have hcz23_5 := qC BK139 5 rfl
      have hcz23_6 := qC BK139 6 rfl
      have hcz23_7 := qC BK139 7 rfl
      have hcz23_8 := qC BK139 8 rfl
      have hfz23_0 := blk_frozen BK139.out 0
      have hfz23_1 := blk_frozen BK139.out 1
      have hfz23_2 := blk_frozen BK139.out 2
      have hfz23_3 := blk_frozen BK139.out 3
      have hfz23_4 := blk_frozen BK139.out 4
      have hfz23_5 := blk_frozen BK139.out 5
      have hfz23_6 := blk_frozen BK139.out 6
      have hfz23_7 := blk_frozen BK139.out 7
      have hfz23_8 := blk_frozen BK139.out 8
      go_wp2_with (first | ((with_reducible refine gate_callee (f := 95) rfl ?_); refine goesL_ (some 7) rfl rfl Tryz.func95 (by kernel_rfl) rfl #[.agg #[.int .i64 a0_3, .int .i64 a0_4, .int .i64 a0_5, .int .i64 a0_6]] rfl (by (try simp only [List.map_toArray, List.map_cons, List.map_nil]); first | done | rfl | (simp only [List.length_drop, List.length_take]; rfl)) ?_; (with_reducible refine (value_Right.calls k a0_3 a0_4 a0_5 a0_6 true _ A4.out).mono ?_); rintro e w24 ⟨rfl, hb⟩; refine ⟨_, rfl, ?_⟩; replace BK139 := qD BK139 hb; replace HB := Aside0.mk (below_step (qW HB.out) hb); (try clear hb); (try clear hb2); (try clear hk); (try clear hi); have hcz25_0 := qC BK139 0 rfl; have hcz25_1 := qC BK139 1 rfl; have hcz25_2 := qC BK139 2 rfl; have hcz25_3 := qC BK139 3 rfl; have hcz25_4 := qC BK139 4 rfl; have hcz25_5 := qC BK139 5 rfl; have hcz25_6 := qC BK139 6 rfl; have hcz25_7 := qC BK139 7 rfl; have hcz25_8 := qC BK139 8 rfl; have hfz25_0 := blk_frozen BK139.out 0; have hfz25_1 := blk_frozen BK139.out 1; have hfz25_2 := blk_frozen BK139.out 2; have hfz25_3 := blk_frozen BK139.out 3; have hfz25_4 := blk_frozen BK139.out 4; have hfz25_5 := blk_frozen BK139.out 5; have hfz25_6 := blk_frozen BK139.out 6; have hfz25_7 := blk_frozen BK139.out 7; have hfz25_8 := blk_frozen BK139.out 8) | (go_at_call 96; (with_reducible refine (event_plain.calls a0_8 false _ A6.out).mono ?_); rintro e w26 ⟨rfl, hb⟩; replace BK139 := qD BK139 hb; replace HB := Aside0.mk (below_step (qW HB.out) hb); (try clear hb); (try clear hb2); (try clear hk); (try clear hi)))
      go_meet
      case rel => exact ⟨_, (true), (by first | rfl | (simp; done) | (simp [*]; done) | (simp [wrap64]; done)), H', ⟨by first | omega | exact Nat.le_refl _⟩, ⟨by (with_reducible repeat (first | refine blk_drewN ?_ _ | refine blk_drew ?_ | refine blk_alloc ?_ _)); exact BK139.out⟩, ⟨by exact qW HB.out⟩⟩
  · replace c5 := Bool.eq_false_iff.mpr c5
    subst c5
    have H1 : (event_Right.j0 k true a0_0 l0_1 l0_2 a0_3 a0_4 a0_5 a0_6 l0_7 a0_8) = some r := by rw [if_neg (show ¬ (false = true) by decide)] at H; exact H
    clear H
    have H := H1
    clear H1
    have H' := Aside0.mk H
    clear H
    have hcz27_0 := qC BK139 0 rfl
    have hcz27_1 := qC BK139 1 rfl
    have hcz27_2 := qC BK139 2 rfl
    have hcz27_3 := qC BK139 3 rfl
    have hcz27_4 := qC BK139 4 rfl
    have hcz27_5 := qC BK139 5 rfl
    have hcz27_6 := qC BK139 6 rfl
    have hcz27_7 := qC BK139 7 rfl
    have hcz27_8 := qC BK139 8 rfl
    have hfz27_0 := blk_frozen BK139.out 0
    have hfz27_1 := blk_frozen BK139.out 1
    have hfz27_2 := blk_frozen BK139.out 2
    have hfz27_3 := blk_frozen BK139.out 3
    have hfz27_4 := blk_frozen BK139.out 4
    have hfz27_5 := blk_frozen BK139.out 5
    have hfz27_6 := blk_frozen BK139.out 6
    have hfz27_7 := blk_frozen BK139.out 7
    have hfz27_8 := blk_frozen BK139.out 8
    go_wp2_with (first | ((with_reducible refine gate_callee (f := 95) rfl ?_); refine goesL_ (some 7) rfl rfl Tryz.func95 (by kernel_rfl) rfl #[.agg #[.int .i64 a0_3, .int .i64 a0_4, .int .i64 a0_5, .int .i64 a0_6]] rfl (by (try simp only [List.map_toArray, List.map_cons, List.map_nil]); first | done | rfl | (simp only [List.length_drop, List.length_take]; rfl)) ?_; (with_reducible refine (value_Right.calls k a0_3 a0_4 a0_5 a0_6 false _ A4.out).mono ?_); rintro e w28 ⟨rfl, hb⟩; refine ⟨_, rfl, ?_⟩; replace BK139 := qD BK139 hb; replace HB := Aside0.mk (below_step (qW HB.out) hb); (try clear hb); (try clear hb2); (try clear hk); (try clear hi)))
    go_meet
    case rel => exact ⟨_, (true), (by first | rfl | (simp; done) | (simp [*]; done) | (simp [wrap64]; done)), H', ⟨by first | omega | exact Nat.le_refl _⟩, ⟨by (with_reducible repeat (first | refine blk_drewN ?_ _ | refine blk_drew ?_ | refine blk_alloc ?_ _)); exact BK139.out⟩, ⟨by exact qW HB.out⟩⟩
 case rest =>
  clear HC2
  try clear p2
  try clear c5
  try clear c7
  try clear c8
  try clear c9
  try clear hcz10_0
  try clear hcz10_1
  try clear hcz10_2
  try clear hcz10_3
  try clear hcz10_4
  try clear hcz10_5
  try clear hcz10_6
  try clear hcz10_7
  try clear hcz10_8
  try clear hcz12_0
  try clear hcz12_1
  try clear hcz12_2
  try clear hcz12_3
  try clear hcz12_4
  try clear hcz12_5
  try clear hcz12_6
  try clear hcz12_7
  try clear hcz12_8
  try clear hcz14_0
  try clear hcz14_1
  try clear hcz14_2
  try clear hcz14_3
  try clear hcz14_4
  try clear hcz14_5
  try clear hcz14_6
  try clear hcz14_7
  try clear hcz14_8
  try clear hcz16_0
  try clear hcz16_1
  try clear hcz16_2
  try clear hcz16_3
  try clear hcz16_4
  try clear hcz16_5
  try clear hcz16_6
  try clear hcz16_7
  try clear hcz16_8
  try clear hcz17_0
  try clear hcz17_1
  try clear hcz17_2
  try clear hcz17_3
  try clear hcz17_4
  try clear hcz17_5
  try clear hcz17_6
  try clear hcz17_7
  try clear hcz17_8
  try clear hcz19_0
  try clear hcz19_1
  try clear hcz19_2
  try clear hcz19_3
  try clear hcz19_4
  try clear hcz19_5
  try clear hcz19_6
  try clear hcz19_7
  try clear hcz19_8
  try clear hcz21_0
  try clear hcz21_1
  try clear hcz21_2
  try clear hcz21_3
  try clear hcz21_4
  try clear hcz21_5
  try clear hcz21_6
  try clear hcz21_7
  try clear hcz21_8
  try clear hcz23_0
  try clear hcz23_1
  try clear hcz23_2
  try clear hcz23_3
  try clear hcz23_4
  try clear hcz23_5
  try clear hcz23_6
  try clear hcz23_7
  try clear hcz23_8
  try clear hcz25_0
  try clear hcz25_1
  try clear hcz25_2
  try clear hcz25_3
  try clear hcz25_4
  try clear hcz25_5
  try clear hcz25_6
  try clear hcz25_7
  try clear hcz25_8
  try clear hcz27_0
  try clear hcz27_1
  try clear hcz27_2
  try clear hcz27_3
  try clear hcz27_4
  try clear hcz27_5
  try clear hcz27_6
  try clear hcz27_7
  try clear hcz27_8
  try clear hfz10_0
  try clear hfz10_1
  try clear hfz10_2
  try clear hfz10_3
  try clear hfz10_4
  try clear hfz10_5
  try clear hfz10_6
  try clear hfz10_7
  try clear hfz10_8
  try clear hfz12_0
  try clear hfz12_1
  try clear hfz12_2
  try clear hfz12_3
  try clear hfz12_4
  try clear hfz12_5
  try clear hfz12_6
  try clear hfz12_7
  try clear hfz12_8
  try clear hfz14_0
  try clear hfz14_1
  try clear hfz14_2
  try clear hfz14_3
  try clear hfz14_4
  try clear hfz14_5
  try clear hfz14_6
  try clear hfz14_7
  try clear hfz14_8
  try clear hfz16_0
  try clear hfz16_1
  try clear hfz16_2
  try clear hfz16_3
  try clear hfz16_4
  try clear hfz16_5
  try clear hfz16_6
  try clear hfz16_7
  try clear hfz16_8
  try clear hfz17_0
  try clear hfz17_1
  try clear hfz17_2
  try clear hfz17_3
  try clear hfz17_4
  try clear hfz17_5
  try clear hfz17_6
  try clear hfz17_7
  try clear hfz17_8
  try clear hfz19_0
  try clear hfz19_1
  try clear hfz19_2
  try clear hfz19_3
  try clear hfz19_4
  try clear hfz19_5
  try clear hfz19_6
  try clear hfz19_7
  try clear hfz19_8
  try clear hfz21_0
  try clear hfz21_1
  try clear hfz21_2
  try clear hfz21_3
  try clear hfz21_4
  try clear hfz21_5
  try clear hfz21_6
  try clear hfz21_7
  try clear hfz21_8
  try clear hfz23_0
  try clear hfz23_1
  try clear hfz23_2
  try clear hfz23_3
  try clear hfz23_4
  try clear hfz23_5
  try clear hfz23_6
  try clear hfz23_7
  try clear hfz23_8
  try clear hfz25_0
  try clear hfz25_1
  try clear hfz25_2
  try clear hfz25_3
  try clear hfz25_4
  try clear hfz25_5
  try clear hfz25_6
  try clear hfz25_7
  try clear hfz25_8
  try clear hfz27_0
  try clear hfz27_1
  try clear hfz27_2
  try clear hfz27_3
  try clear hfz27_4
  try clear hfz27_5
  try clear hfz27_6
  try clear hfz27_7
  try clear hfz27_8
  obtain ⟨kq, x29_1, rfl, HA, HJ1, BK139, HB⟩ := hcut
  cases kq with
  | zero => exact absurd HA.out (by simp [event_Right.j0])
  | succ kj1 =>
   have H := HA.out
   clear HA
   simp only [event_Right.j0] at H
   by_cases c29 : x29_1 = true
   · subst c29
     have H1 : (some false) = some r := by rw [if_pos rfl] at H; exact H
     clear H
     have H := H1
     clear H1
     obtain rfl := Option.some.inj H
     go_wp2
     go_ret
     exact ⟨by first | rfl | (simp [errW_none, errW_some] <;> rfl) | (simp [*, errW_none, errW_some] <;> rfl), by exact qW HB.out⟩
   · replace c29 := Bool.eq_false_iff.mpr c29
     subst c29
     have H1 : (if a0_0 = 0 then (if (l0_1.length : Int) = 0 then (if a0_8.toList = ([] : List UInt8) then ((event_Right_1.f l0_7).bind fun t143 => (some (!t143))) else (some false)) else (some false)) else (if a0_0 = 1 then (if (l0_1.length : Int) < 1 then (event_Right.j1 kj1 true a0_0 l0_1 l0_2 a0_3 a0_4 a0_5 a0_6 l0_7 a0_8) else (event_Right.j1 kj1 (decide ((l0_1.length : Int) > 8)) a0_0 l0_1 l0_2 a0_3 a0_4 a0_5 a0_6 l0_7 a0_8)) else (event_Right.j1 kj1 true a0_0 l0_1 l0_2 a0_3 a0_4 a0_5 a0_6 l0_7 a0_8))) = some r := by rw [if_neg (show ¬ (false = true) by decide)] at H; exact H
     clear H
     have H := H1
     clear H1
     by_cases c30 : a0_0 = 0
     · rw [if_pos c30] at H
       have c30b0 : (a0_0 == 0) = true := beq_iff_eq.mpr c30
       have c30b1 : (a0_0 != 0) = false := bne_eq_false_iff_eq.mpr c30
       clear c30
       by_cases c31 : (l0_1.length : Int) = 0
       · rw [if_pos c31] at H
         have c31b0 : ((l0_1.length : Int) == 0) = true := beq_iff_eq.mpr c31
         have c31b1 : ((l0_1.length : Int) != 0) = false := bne_eq_false_iff_eq.mpr c31
         clear c31
         by_cases c32 : a0_8.toList = ([] : List UInt8)
         · rw [if_pos c32] at H
           have c32b0 : (a0_8.toList == ([] : List UInt8)) = true := beq_iff_eq.mpr c32
           have c32b1 : (a0_8.toList != ([] : List UInt8)) = false := bne_eq_false_iff_eq.mpr c32
           clear c32
           replace H := Option.bind_eq_some_iff.mp H
           obtain ⟨t143, A330, H⟩ := H
           replace H : (some (!t143)) = some r := H
           have A33 := Aside0.mk A330
           clear A330
           obtain rfl := Option.some.inj H
           have hcz34_0 := qC BK139 0 rfl
           have hcz34_1 := qC BK139 1 rfl
           have hcz34_2 := qC BK139 2 rfl
           have hcz34_3 := qC BK139 3 rfl
           have hcz34_4 := qC BK139 4 rfl
           have hcz34_5 := qC BK139 5 rfl
           have hcz34_6 := qC BK139 6 rfl
           have hcz34_7 := qC BK139 7 rfl
           have hcz34_8 := qC BK139 8 rfl
           have hfz34_0 := blk_frozen BK139.out 0
           have hfz34_1 := blk_frozen BK139.out 1
           have hfz34_2 := blk_frozen BK139.out 2
           have hfz34_3 := blk_frozen BK139.out 3
           have hfz34_4 := blk_frozen BK139.out 4
           have hfz34_5 := blk_frozen BK139.out 5
           have hfz34_6 := blk_frozen BK139.out 6
           have hfz34_7 := blk_frozen BK139.out 7
           have hfz34_8 := blk_frozen BK139.out 8
           go_wp2_with (first | (go_at_call 23; (with_reducible refine (event_Right_1.calls _ _ l0_7 t143 _ ?side1 ?side2 A33.out).mono ?_); (case side1 => repeat (first | exact (Kd.C_below HR0_7.out HB.out) | (with_reducible refine Kd.C_alloc ?_ _) | (with_reducible refine Kd.C_drewN ?_ _) | (with_reducible refine Kd.C_drew ?_))); (case side2 => exact HC0_7.out); rintro e w35 ⟨rfl, hb⟩; replace BK139 := qD BK139 hb; replace HB := Aside0.mk (below_step (qW HB.out) hb); (try clear hb); (try clear hb2); (try clear hk); (try clear hi)))
           go_ret
           exact ⟨by first | rfl | (simp [errW_none, errW_some] <;> rfl) | (simp [*, errW_none, errW_some] <;> rfl), by exact qW HB.out⟩
         · rw [if_neg c32] at H
           have c32b0 : (a0_8.toList == ([] : List UInt8)) = false := beq_eq_false_iff_ne.mpr c32
           have c32b1 : (a0_8.toList != ([] : List UInt8)) = true := bne_iff_ne.mpr c32
           obtain rfl := Option.some.inj H
           have hcz36_0 := qC BK139 0 rfl
           have hcz36_1 := qC BK139 1 rfl
           have hcz36_2 := qC BK139 2 rfl
           have hcz36_3 := qC BK139 3 rfl
           have hcz36_4 := qC BK139 4 rfl
           have hcz36_5 := qC BK139 5 rfl
           have hcz36_6 := qC BK139 6 rfl
           have hcz36_7 := qC BK139 7 rfl
           have hcz36_8 := qC BK139 8 rfl
           have hfz36_0 := blk_frozen BK139.out 0
           have hfz36_1 := blk_frozen BK139.out 1
           have hfz36_2 := blk_frozen BK139.out 2
           have hfz36_3 := blk_frozen BK139.out 3
           have hfz36_4 := blk_frozen BK139.out 4
           have hfz36_5 := blk_frozen BK139.out 5
           have hfz36_6 := blk_frozen BK139.out 6
           have hfz36_7 := blk_frozen BK139.out 7
           have hfz36_8 := blk_frozen BK139.out 8
           go_wp2
           go_ret
           exact ⟨by first | rfl | (simp [errW_none, errW_some] <;> rfl) | (simp [*, errW_none, errW_some] <;> rfl), by exact qW HB.out⟩
       · rw [if_neg c31] at H
         have c31b0 : ((l0_1.length : Int) == 0) = false := beq_eq_false_iff_ne.mpr c31
         have c31b1 : ((l0_1.length : Int) != 0) = true := bne_iff_ne.mpr c31
         have c31b2 : ¬ (l0_1 = []) := fun h_ => c31 (by rw [h_]; rfl)
         obtain rfl := Option.some.inj H
         have hcz37_0 := qC BK139 0 rfl
         have hcz37_1 := qC BK139 1 rfl
         have hcz37_2 := qC BK139 2 rfl
         have hcz37_3 := qC BK139 3 rfl
         have hcz37_4 := qC BK139 4 rfl
         have hcz37_5 := qC BK139 5 rfl
         have hcz37_6 := qC BK139 6 rfl
         have hcz37_7 := qC BK139 7 rfl
         have hcz37_8 := qC BK139 8 rfl
         have hfz37_0 := blk_frozen BK139.out 0
         have hfz37_1 := blk_frozen BK139.out 1
         have hfz37_2 := blk_frozen BK139.out 2
         have hfz37_3 := blk_frozen BK139.out 3
         have hfz37_4 := blk_frozen BK139.out 4
         have hfz37_5 := blk_frozen BK139.out 5
         have hfz37_6 := blk_frozen BK139.out 6
         have hfz37_7 := blk_frozen BK139.out 7
         have hfz37_8 := blk_frozen BK139.out 8
         go_wp2
         go_ret
         exact ⟨by first | rfl | (simp [errW_none, errW_some] <;> rfl) | (simp [*, errW_none, errW_some] <;> rfl), by exact qW HB.out⟩
     · rw [if_neg c30] at H
       have c30b0 : (a0_0 == 0) = false := beq_eq_false_iff_ne.mpr c30
       have c30b1 : (a0_0 != 0) = true := bne_iff_ne.mpr c30
       have HC38 := Aside0.mk H
       clear H
       have hcz39_0 := qC BK139 0 rfl
       have hcz39_1 := qC BK139 1 rfl
       have hcz39_2 := qC BK139 2 rfl
       have hcz39_3 := qC BK139 3 rfl
       have hcz39_4 := qC BK139 4 rfl
       have hcz39_5 := qC BK139 5 rfl
       have hcz39_6 := qC BK139 6 rfl
       have hcz39_7 := qC BK139 7 rfl
       have hcz39_8 := qC BK139 8 rfl
       have hfz39_0 := blk_frozen BK139.out 0
       have hfz39_1 := blk_frozen BK139.out 1
       have hfz39_2 := blk_frozen BK139.out 2
       have hfz39_3 := blk_frozen BK139.out 3
       have hfz39_4 := blk_frozen BK139.out 4
       have hfz39_5 := blk_frozen BK139.out 5
       have hfz39_6 := blk_frozen BK139.out 6
       have hfz39_7 := blk_frozen BK139.out 7
       have hfz39_8 := blk_frozen BK139.out 8
       go_upto_region 5 with (fail)
       go_cut [62] (fun v62 wc => ∃ (kq : Nat) (x62_37 : Bool), v62 = .bool x62_37 ∧ Aside0 (event_Right.j1 kq x62_37 a0_0 l0_1 l0_2 a0_3 a0_4 a0_5 a0_6 l0_7 a0_8 = some r) ∧ Aside0 (kq ≤ kj1) ∧ Aside0 (wc.heap[gb139]? = some (.cells #[.int .i64 a0_0, (.slice A0_1 l0_1.length c0_1), (.slice A0_2 l0_2.length c0_2), .int .i64 a0_3, .int .i64 a0_4, .int .i64 a0_5, .int .i64 a0_6, (.slice A0_7 l0_7.length c0_7), .string a0_8] 41 (0, 0))) ∧ Aside0 (Below w.heap.size w wc))
       case first =>
        have H := HC38.out
        clear HC38
        by_cases c40 : a0_0 = 1
        · rw [if_pos c40] at H
          have c40b0 : (a0_0 == 1) = true := beq_iff_eq.mpr c40
          have c40b1 : (a0_0 != 1) = false := bne_eq_false_iff_eq.mpr c40
          clear c40
          (first | rw [c40b0] | (simp only [i64_w, i32_w]; rw [c40b0]) | skip)
          by_cases c41 : (l0_1.length : Int) < 1
          · rw [if_pos c41] at H
            have c41b0 : decide ((l0_1.length : Int) < 1) = true := decide_eq_true c41
            have c41b1 : decide (l0_1.length < 1) = true := decide_eq_true (by omega)
            clear c41
            have H' := Aside0.mk H
            clear H
            have hcz42_0 := qC BK139 0 rfl
            have hcz42_1 := qC BK139 1 rfl
            have hcz42_2 := qC BK139 2 rfl
            have hcz42_3 := qC BK139 3 rfl
            have hcz42_4 := qC BK139 4 rfl
            have hcz42_5 := qC BK139 5 rfl
            have hcz42_6 := qC BK139 6 rfl
            have hcz42_7 := qC BK139 7 rfl
            have hcz42_8 := qC BK139 8 rfl
            have hfz42_0 := blk_frozen BK139.out 0
            have hfz42_1 := blk_frozen BK139.out 1
            have hfz42_2 := blk_frozen BK139.out 2
            have hfz42_3 := blk_frozen BK139.out 3
            have hfz42_4 := blk_frozen BK139.out 4
            have hfz42_5 := blk_frozen BK139.out 5
            have hfz42_6 := blk_frozen BK139.out 6
            have hfz42_7 := blk_frozen BK139.out 7
            have hfz42_8 := blk_frozen BK139.out 8
            go_wp2
            go_meet
            case rel => exact ⟨_, (true), (by first | rfl | (simp; done) | (simp [*]; done) | (simp [wrap64]; done)), H', ⟨by have := HJ1.out; first | omega | exact Nat.le_refl _⟩, ⟨by (with_reducible repeat (first | refine blk_drewN ?_ _ | refine blk_drew ?_ | refine blk_alloc ?_ _)); exact BK139.out⟩, ⟨by exact qW HB.out⟩⟩
          · rw [if_neg c41] at H
            have c41b0 : decide ((l0_1.length : Int) < 1) = false := decide_eq_false c41
            have c41b1 : decide (l0_1.length < 1) = false := decide_eq_false (by omega)
            clear c41
            have H' := Aside0.mk H
            clear H
            have hcz43_0 := qC BK139 0 rfl
            have hcz43_1 := qC BK139 1 rfl
            have hcz43_2 := qC BK139 2 rfl
            have hcz43_3 := qC BK139 3 rfl
            have hcz43_4 := qC BK139 4 rfl
            have hcz43_5 := qC BK139 5 rfl
            have hcz43_6 := qC BK139 6 rfl
            have hcz43_7 := qC BK139 7 rfl
            have hcz43_8 := qC BK139 8 rfl
            have hfz43_0 := blk_frozen BK139.out 0
            have hfz43_1 := blk_frozen BK139.out 1
            have hfz43_2 := blk_frozen BK139.out 2
            have hfz43_3 := blk_frozen BK139.out 3
            have hfz43_4 := blk_frozen BK139.out 4
            have hfz43_5 := blk_frozen BK139.out 5
            have hfz43_6 := blk_frozen BK139.out 6
            have hfz43_7 := blk_frozen BK139.out 7
            have hfz43_8 := blk_frozen BK139.out 8
            go_wp2
            go_meet
            case rel => exact ⟨_, (decide ((l0_1.length : Int) > 8)), (by first | rfl | (simp; done) | (simp [*]; done) | (simp [wrap64]; done)), H', ⟨by have := HJ1.out; first | omega | exact Nat.le_refl _⟩, ⟨by (with_reducible repeat (first | refine blk_drewN ?_ _ | refine blk_drew ?_ | refine blk_alloc ?_ _)); exact BK139.out⟩, ⟨by exact qW HB.out⟩⟩
        · rw [if_neg c40] at H
          have c40b0 : (a0_0 == 1) = false := beq_eq_false_iff_ne.mpr c40
          have c40b1 : (a0_0 != 1) = true := bne_iff_ne.mpr c40
          (first | rw [c40b0] | (simp only [i64_w, i32_w]; rw [c40b0]) | skip)
          have H' := Aside0.mk H
          clear H
          have hcz44_0 := qC BK139 0 rfl
          have hcz44_1 := qC BK139 1 rfl
          have hcz44_2 := qC BK139 2 rfl
          have hcz44_3 := qC BK139 3 rfl
          have hcz44_4 := qC BK139 4 rfl
          have hcz44_5 := qC BK139 5 rfl
          have hcz44_6 := qC BK139 6 rfl
          have hcz44_7 := qC BK139 7 rfl
          have hcz44_8 := qC BK139 8 rfl
          have hfz44_0 := blk_frozen BK139.out 0
          have hfz44_1 := blk_frozen BK139.out 1
          have hfz44_2 := blk_frozen BK139.out 2
          have hfz44_3 := blk_frozen BK139.out 3
          have hfz44_4 := blk_frozen BK139.out 4
          have hfz44_5 := blk_frozen BK139.out 5
          have hfz44_6 := blk_frozen BK139.out 6
          have hfz44_7 := blk_frozen BK139.out 7
          have hfz44_8 := blk_frozen BK139.out 8
          go_wp2
          go_meet
          case rel => exact ⟨_, (true), (by first | rfl | (simp; done) | (simp [*]; done) | (simp [wrap64]; done)), H', ⟨by have := HJ1.out; first | omega | exact Nat.le_refl _⟩, ⟨by (with_reducible repeat (first | refine blk_drewN ?_ _ | refine blk_drew ?_ | refine blk_alloc ?_ _)); exact BK139.out⟩, ⟨by exact qW HB.out⟩⟩
       case rest =>
        clear HC38
        try clear c2
        try clear p2
        try clear c3
        try clear c4
        try clear c5
        try clear c7
        try clear c8
        try clear c9
        try clear c29
        try clear c30
        try clear c30b0
        try clear c30b1
        try clear c31
        try clear c31b0
        try clear c31b1
        try clear c31b2
        try clear c32
        try clear c32b0
        try clear c32b1
        try clear c40
        try clear c40b0
        try clear c40b1
        try clear c41
        try clear c41b0
        try clear c41b1
        try clear hcz10_0
        try clear hcz10_1
        try clear hcz10_2
        try clear hcz10_3
        try clear hcz10_4
        try clear hcz10_5
        try clear hcz10_6
        try clear hcz10_7
        try clear hcz10_8
        try clear hcz12_0
        try clear hcz12_1
        try clear hcz12_2
        try clear hcz12_3
        try clear hcz12_4
        try clear hcz12_5
        try clear hcz12_6
        try clear hcz12_7
        try clear hcz12_8
        try clear hcz14_0
        try clear hcz14_1
        try clear hcz14_2
        try clear hcz14_3
        try clear hcz14_4
        try clear hcz14_5
        try clear hcz14_6
        try clear hcz14_7
        try clear hcz14_8
        try clear hcz16_0
        try clear hcz16_1
        try clear hcz16_2
        try clear hcz16_3
        try clear hcz16_4
        try clear hcz16_5
        try clear hcz16_6
        try clear hcz16_7
        try clear hcz16_8
        try clear hcz17_0
        try clear hcz17_1
        try clear hcz17_2
        try clear hcz17_3
        try clear hcz17_4
        try clear hcz17_5
        try clear hcz17_6
        try clear hcz17_7
        try clear hcz17_8
        try clear hcz19_0
        try clear hcz19_1
        try clear hcz19_2
        try clear hcz19_3
        try clear hcz19_4
        try clear hcz19_5
        try clear hcz19_6
        try clear hcz19_7
        try clear hcz19_8
        try clear hcz21_0
        try clear hcz21_1
        try clear hcz21_2
        try clear hcz21_3
        try clear hcz21_4
        try clear hcz21_5
        try clear hcz21_6
        try clear hcz21_7
        try clear hcz21_8
        try clear hcz23_0
        try clear hcz23_1
        try clear hcz23_2
        try clear hcz23_3
        try clear hcz23_4
        try clear hcz23_5
        try clear hcz23_6
        try clear hcz23_7
        try clear hcz23_8
        try clear hcz25_0
        try clear hcz25_1
        try clear hcz25_2
        try clear hcz25_3
        try clear hcz25_4
        try clear hcz25_5
        try clear hcz25_6
        try clear hcz25_7
        try clear hcz25_8
        try clear hcz27_0
        try clear hcz27_1
        try clear hcz27_2
        try clear hcz27_3
        try clear hcz27_4
        try clear hcz27_5
        try clear hcz27_6
        try clear hcz27_7
        try clear hcz27_8
        try clear hcz34_0
        try clear hcz34_1
        try clear hcz34_2
        try clear hcz34_3
        try clear hcz34_4
        try clear hcz34_5
        try clear hcz34_6
        try clear hcz34_7
        try clear hcz34_8
        try clear hcz36_0
        try clear hcz36_1
        try clear hcz36_2
        try clear hcz36_3
        try clear hcz36_4
        try clear hcz36_5
        try clear hcz36_6
        try clear hcz36_7
        try clear hcz36_8
        try clear hcz37_0
        try clear hcz37_1
        try clear hcz37_2
        try clear hcz37_3
        try clear hcz37_4
        try clear hcz37_5
        try clear hcz37_6
        try clear hcz37_7
        try clear hcz37_8
        try clear hcz39_0
        try clear hcz39_1
        try clear hcz39_2
        try clear hcz39_3
        try clear hcz39_4
        try clear hcz39_5
        try clear hcz39_6
        try clear hcz39_7
        try clear hcz39_8
        try clear hcz42_0
        try clear hcz42_1
        try clear hcz42_2
        try clear hcz42_3
        try clear hcz42_4
        try clear hcz42_5
        try clear hcz42_6
        try clear hcz42_7
        try clear hcz42_8
        try clear hcz43_0
        try clear hcz43_1
        try clear hcz43_2
        try clear hcz43_3
        try clear hcz43_4
        try clear hcz43_5
        try clear hcz43_6
        try clear hcz43_7
        try clear hcz43_8
        try clear hcz44_0
        try clear hcz44_1
        try clear hcz44_2
        try clear hcz44_3
        try clear hcz44_4
        try clear hcz44_5
        try clear hcz44_6
        try clear hcz44_7
        try clear hcz44_8
        try clear hfz10_0
        try clear hfz10_1
        try clear hfz10_2
        try clear hfz10_3
        try clear hfz10_4
        try clear hfz10_5
        try clear hfz10_6
        try clear hfz10_7
        try clear hfz10_8
        try clear hfz12_0
        try clear hfz12_1
        try clear hfz12_2
        try clear hfz12_3
        try clear hfz12_4
        try clear hfz12_5
        try clear hfz12_6
        try clear hfz12_7
        try clear hfz12_8
        try clear hfz14_0
        try clear hfz14_1
        try clear hfz14_2
        try clear hfz14_3
        try clear hfz14_4
        try clear hfz14_5
        try clear hfz14_6
        try clear hfz14_7
        try clear hfz14_8
        try clear hfz16_0
        try clear hfz16_1
        try clear hfz16_2
        try clear hfz16_3
        try clear hfz16_4
        try clear hfz16_5
        try clear hfz16_6
        try clear hfz16_7
        try clear hfz16_8
        try clear hfz17_0
        try clear hfz17_1
        try clear hfz17_2
        try clear hfz17_3
        try clear hfz17_4
        try clear hfz17_5
        try clear hfz17_6
        try clear hfz17_7
        try clear hfz17_8
        try clear hfz19_0
        try clear hfz19_1
        try clear hfz19_2
        try clear hfz19_3
        try clear hfz19_4
        try clear hfz19_5
        try clear hfz19_6
        try clear hfz19_7
        try clear hfz19_8
        try clear hfz21_0
        try clear hfz21_1
        try clear hfz21_2
        try clear hfz21_3
        try clear hfz21_4
        try clear hfz21_5
        try clear hfz21_6
        try clear hfz21_7
        try clear hfz21_8
        try clear hfz23_0
        try clear hfz23_1
        try clear hfz23_2
        try clear hfz23_3
        try clear hfz23_4
        try clear hfz23_5
        try clear hfz23_6
        try clear hfz23_7
        try clear hfz23_8
        try clear hfz25_0
        try clear hfz25_1
        try clear hfz25_2
        try clear hfz25_3
        try clear hfz25_4
        try clear hfz25_5
        try clear hfz25_6
        try clear hfz25_7
        try clear hfz25_8
        try clear hfz27_0
        try clear hfz27_1
        try clear hfz27_2
        try clear hfz27_3
        try clear hfz27_4
        try clear hfz27_5
        try clear hfz27_6
        try clear hfz27_7
        try clear hfz27_8
        try clear hfz34_0
        try clear hfz34_1
        try clear hfz34_2
        try clear hfz34_3
        try clear hfz34_4
        try clear hfz34_5
        try clear hfz34_6
        try clear hfz34_7
        try clear hfz34_8
        try clear hfz36_0
        try clear hfz36_1
        try clear hfz36_2
        try clear hfz36_3
        try clear hfz36_4
        try clear hfz36_5
        try clear hfz36_6
        try clear hfz36_7
        try clear hfz36_8
        try clear hfz37_0
        try clear hfz37_1
        try clear hfz37_2
        try clear hfz37_3
        try clear hfz37_4
        try clear hfz37_5
        try clear hfz37_6
        try clear hfz37_7
        try clear hfz37_8
        try clear hfz39_0
        try clear hfz39_1
        try clear hfz39_2
        try clear hfz39_3
        try clear hfz39_4
        try clear hfz39_5
        try clear hfz39_6
        try clear hfz39_7
        try clear hfz39_8
        try clear hfz42_0
        try clear hfz42_1
        try clear hfz42_2
        try clear hfz42_3
        try clear hfz42_4
        try clear hfz42_5
        try clear hfz42_6
        try clear hfz42_7
        try clear hfz42_8
        try clear hfz43_0
        try clear hfz43_1
        try clear hfz43_2
        try clear hfz43_3
        try clear hfz43_4
        try clear hfz43_5
        try clear hfz43_6
        try clear hfz43_7
        try clear hfz43_8
        try clear hfz44_0
        try clear hfz44_1
        try clear hfz44_2
        try clear hfz44_3
        try clear hfz44_4
        try clear hfz44_5
        try clear hfz44_6
        try clear hfz44_7
        try clear hfz44_8
        try clear p2
        obtain ⟨kq, x62_37, rfl, HA, HJ37, BK139, HB⟩ := hcut
        cases kq with
        | zero => exact absurd HA.out (by simp [event_Right.j1])
        | succ kj37 =>
         have H := HA.out
         clear HA
         simp only [event_Right.j1] at H
         by_cases c45 : x62_37 = true
         · subst c45
           have H1 : (some false) = some r := by rw [if_pos rfl] at H; exact H
           clear H
           have H := H1
           clear H1
           obtain rfl := Option.some.inj H
           go_wp2
           go_ret
           exact ⟨by first | rfl | (simp [errW_none, errW_some] <;> rfl) | (simp [*, errW_none, errW_some] <;> rfl), by exact qW HB.out⟩
         · replace c45 := Bool.eq_false_iff.mpr c45
           subst c45
           have H1 : (event_Right.l0 kj37 l0_1 (l0_1.length : Int) 0 a0_0 l0_1 l0_2 a0_3 a0_4 a0_5 a0_6 l0_7 a0_8) = some r := by rw [if_neg (show ¬ (false = true) by decide)] at H; exact H
           clear H
           have H := H1
           clear H1
           have H' := Aside0.mk H
           clear H
           have hcz46_0 := qC BK139 0 rfl
           have hcz46_1 := qC BK139 1 rfl
           have hcz46_2 := qC BK139 2 rfl
           have hcz46_3 := qC BK139 3 rfl
           have hcz46_4 := qC BK139 4 rfl
           have hcz46_5 := qC BK139 5 rfl
           have hcz46_6 := qC BK139 6 rfl
           have hcz46_7 := qC BK139 7 rfl
           have hcz46_8 := qC BK139 8 rfl
           have hfz46_0 := blk_frozen BK139.out 0
           have hfz46_1 := blk_frozen BK139.out 1
           have hfz46_2 := blk_frozen BK139.out 2
           have hfz46_3 := blk_frozen BK139.out 3
           have hfz46_4 := blk_frozen BK139.out 4
           have hfz46_5 := blk_frozen BK139.out 5
           have hfz46_6 := blk_frozen BK139.out 6
           have hfz46_7 := blk_frozen BK139.out 7
           have hfz46_8 := blk_frozen BK139.out 8
           go_wp2
           go_loopg [66] kj37 (fun kq v66 w' => ∃ (x66_3 : Int), v66 = .int .i64 x66_3 ∧ Aside0 (event_Right.l0 kq l0_1 (l0_1.length : Int) x66_3 a0_0 l0_1 l0_2 a0_3 a0_4 a0_5 a0_6 l0_7 a0_8 = some r) ∧ Aside0 (kq ≤ kj37) ∧ Aside0 (w'.heap[gb139]? = some (.cells #[.int .i64 a0_0, (.slice A0_1 l0_1.length c0_1), (.slice A0_2 l0_2.length c0_2), .int .i64 a0_3, .int .i64 a0_4, .int .i64 a0_5, .int .i64 a0_6, (.slice A0_7 l0_7.length c0_7), .string a0_8] 41 (0, 0))) ∧ Aside0 (Below w.heap.size w w'))
           case atStart => exact ⟨(0), (by first | rfl | (simp; done) | (simp [*]; done) | (simp [wrap64]; done)), H', ⟨Nat.le_refl _⟩, ⟨by (with_reducible repeat (first | refine blk_drewN ?_ _ | refine blk_drew ?_ | refine blk_alloc ?_ _)); exact BK139.out⟩, ⟨by exact qW HB.out⟩⟩
           case round =>
            clear H'
            try clear c2
            try clear p2
            try clear c3
            try clear c4
            try clear c5
            try clear c7
            try clear c8
            try clear c9
            try clear c29
            try clear c30
            try clear c30b0
            try clear c30b1
            try clear c31
            try clear c31b0
            try clear c31b1
            try clear c31b2
            try clear c32
            try clear c32b0
            try clear c32b1
            try clear c40
            try clear c40b0
            try clear c40b1
            try clear c41
            try clear c41b0
            try clear c41b1
            try clear c45
            try clear hcz10_0
            try clear hcz10_1
            try clear hcz10_2
            try clear hcz10_3
            try clear hcz10_4
            try clear hcz10_5
            try clear hcz10_6
            try clear hcz10_7
            try clear hcz10_8
            try clear hcz12_0
            try clear hcz12_1
            try clear hcz12_2
            try clear hcz12_3
            try clear hcz12_4
            try clear hcz12_5
            try clear hcz12_6
            try clear hcz12_7
            try clear hcz12_8
            try clear hcz14_0
            try clear hcz14_1
            try clear hcz14_2
            try clear hcz14_3
            try clear hcz14_4
            try clear hcz14_5
            try clear hcz14_6
            try clear hcz14_7
            try clear hcz14_8
            try clear hcz16_0
            try clear hcz16_1
            try clear hcz16_2
            try clear hcz16_3
            try clear hcz16_4
            try clear hcz16_5
            try clear hcz16_6
            try clear hcz16_7
            try clear hcz16_8
            try clear hcz17_0
            try clear hcz17_1
            try clear hcz17_2
            try clear hcz17_3
            try clear hcz17_4
            try clear hcz17_5
            try clear hcz17_6
            try clear hcz17_7
            try clear hcz17_8
            try clear hcz19_0
            try clear hcz19_1
            try clear hcz19_2
            try clear hcz19_3
            try clear hcz19_4
            try clear hcz19_5
            try clear hcz19_6
            try clear hcz19_7
            try clear hcz19_8
            try clear hcz21_0
            try clear hcz21_1
            try clear hcz21_2
            try clear hcz21_3
            try clear hcz21_4
            try clear hcz21_5
            try clear hcz21_6
            try clear hcz21_7
            try clear hcz21_8
            try clear hcz23_0
            try clear hcz23_1
            try clear hcz23_2
            try clear hcz23_3
            try clear hcz23_4
            try clear hcz23_5
            try clear hcz23_6
            try clear hcz23_7
            try clear hcz23_8
            try clear hcz25_0
            try clear hcz25_1
            try clear hcz25_2
            try clear hcz25_3
            try clear hcz25_4
            try clear hcz25_5
            try clear hcz25_6
            try clear hcz25_7
            try clear hcz25_8
            try clear hcz27_0
            try clear hcz27_1
            try clear hcz27_2
            try clear hcz27_3
            try clear hcz27_4
            try clear hcz27_5
            try clear hcz27_6
            try clear hcz27_7
            try clear hcz27_8
            try clear hcz34_0
            try clear hcz34_1
            try clear hcz34_2
            try clear hcz34_3
            try clear hcz34_4
            try clear hcz34_5
            try clear hcz34_6
            try clear hcz34_7
            try clear hcz34_8
            try clear hcz36_0
            try clear hcz36_1
            try clear hcz36_2
            try clear hcz36_3
            try clear hcz36_4
            try clear hcz36_5
            try clear hcz36_6
            try clear hcz36_7
            try clear hcz36_8
            try clear hcz37_0
            try clear hcz37_1
            try clear hcz37_2
            try clear hcz37_3
            try clear hcz37_4
            try clear hcz37_5
            try clear hcz37_6
            try clear hcz37_7
            try clear hcz37_8
            try clear hcz39_0
            try clear hcz39_1
            try clear hcz39_2
            try clear hcz39_3
            try clear hcz39_4
            try clear hcz39_5
            try clear hcz39_6
            try clear hcz39_7
            try clear hcz39_8
            try clear hcz42_0
            try clear hcz42_1
            try clear hcz42_2
            try clear hcz42_3
            try clear hcz42_4
            try clear hcz42_5
            try clear hcz42_6
            try clear hcz42_7
            try clear hcz42_8
            try clear hcz43_0
            try clear hcz43_1
            try clear hcz43_2
            try clear hcz43_3
            try clear hcz43_4
            try clear hcz43_5
            try clear hcz43_6
            try clear hcz43_7
            try clear hcz43_8
            try clear hcz44_0
            try clear hcz44_1
            try clear hcz44_2
            try clear hcz44_3
            try clear hcz44_4
            try clear hcz44_5
            try clear hcz44_6
            try clear hcz44_7
            try clear hcz44_8
            try clear hcz46_0
            try clear hcz46_1
            try clear hcz46_2
            try clear hcz46_3
            try clear hcz46_4
            try clear hcz46_5
            try clear hcz46_6
            try clear hcz46_7
            try clear hcz46_8
            try clear hfz10_0
            try clear hfz10_1
            try clear hfz10_2
            try clear hfz10_3
            try clear hfz10_4
            try clear hfz10_5
            try clear hfz10_6
            try clear hfz10_7
            try clear hfz10_8
            try clear hfz12_0
            try clear hfz12_1
            try clear hfz12_2
            try clear hfz12_3
            try clear hfz12_4
            try clear hfz12_5
            try clear hfz12_6
            try clear hfz12_7
            try clear hfz12_8
            try clear hfz14_0
            try clear hfz14_1
            try clear hfz14_2
            try clear hfz14_3
            try clear hfz14_4
            try clear hfz14_5
            try clear hfz14_6
            try clear hfz14_7
            try clear hfz14_8
            try clear hfz16_0
            try clear hfz16_1
            try clear hfz16_2
            try clear hfz16_3
            try clear hfz16_4
            try clear hfz16_5
            try clear hfz16_6
            try clear hfz16_7
            try clear hfz16_8
            try clear hfz17_0
            try clear hfz17_1
            try clear hfz17_2
            try clear hfz17_3
            try clear hfz17_4
            try clear hfz17_5
            try clear hfz17_6
            try clear hfz17_7
            try clear hfz17_8
            try clear hfz19_0
            try clear hfz19_1
            try clear hfz19_2
            try clear hfz19_3
            try clear hfz19_4
            try clear hfz19_5
            try clear hfz19_6
            try clear hfz19_7
            try clear hfz19_8
            try clear hfz21_0
            try clear hfz21_1
            try clear hfz21_2
            try clear hfz21_3
            try clear hfz21_4
            try clear hfz21_5
            try clear hfz21_6
            try clear hfz21_7
            try clear hfz21_8
            try clear hfz23_0
            try clear hfz23_1
            try clear hfz23_2
            try clear hfz23_3
            try clear hfz23_4
            try clear hfz23_5
            try clear hfz23_6
            try clear hfz23_7
            try clear hfz23_8
            try clear hfz25_0
            try clear hfz25_1
            try clear hfz25_2
            try clear hfz25_3
            try clear hfz25_4
            try clear hfz25_5
            try clear hfz25_6
            try clear hfz25_7
            try clear hfz25_8
            try clear hfz27_0
            try clear hfz27_1
            try clear hfz27_2
            try clear hfz27_3
            try clear hfz27_4
            try clear hfz27_5
            try clear hfz27_6
            try clear hfz27_7
            try clear hfz27_8
            try clear hfz34_0
            try clear hfz34_1
            try clear hfz34_2
            try clear hfz34_3
            try clear hfz34_4
            try clear hfz34_5
            try clear hfz34_6
            try clear hfz34_7
            try clear hfz34_8
            try clear hfz36_0
            try clear hfz36_1
            try clear hfz36_2
            try clear hfz36_3
            try clear hfz36_4
            try clear hfz36_5
            try clear hfz36_6
            try clear hfz36_7
            try clear hfz36_8
            try clear hfz37_0
            try clear hfz37_1
            try clear hfz37_2
            try clear hfz37_3
            try clear hfz37_4
            try clear hfz37_5
            try clear hfz37_6
            try clear hfz37_7
            try clear hfz37_8
            try clear hfz39_0
            try clear hfz39_1
            try clear hfz39_2
            try clear hfz39_3
            try clear hfz39_4
            try clear hfz39_5
            try clear hfz39_6
            try clear hfz39_7
            try clear hfz39_8
            try clear hfz42_0
            try clear hfz42_1
            try clear hfz42_2
            try clear hfz42_3
            try clear hfz42_4
            try clear hfz42_5
            try clear hfz42_6
            try clear hfz42_7
            try clear hfz42_8
            try clear hfz43_0
            try clear hfz43_1
            try clear hfz43_2
            try clear hfz43_3
            try clear hfz43_4
            try clear hfz43_5
            try clear hfz43_6
            try clear hfz43_7
            try clear hfz43_8
            try clear hfz44_0
            try clear hfz44_1
            try clear hfz44_2
            try clear hfz44_3
            try clear hfz44_4
            try clear hfz44_5
            try clear hfz44_6
            try clear hfz44_7
            try clear hfz44_8
            try clear hfz46_0
            try clear hfz46_1
            try clear hfz46_2
            try clear hfz46_3
            try clear hfz46_4
            try clear hfz46_5
            try clear hfz46_6
            try clear hfz46_7
            try clear hfz46_8
            try clear p2
            obtain ⟨x66_3, rfl, HA, HK3, BK139, HB⟩ := hrel
            cases gk with
            | zero => exact absurd HA.out (by simp [event_Right.l0])
            | succ k3 =>
             have H := HA.out
             clear HA
             simp only [event_Right.l0] at H
             by_cases c47 : x66_3 < (l0_1.length : Int)
             · rw [if_pos c47] at H
               have c47b0 : decide (x66_3 < (l0_1.length : Int)) = true := decide_eq_true c47
               clear c47
               by_cases c48 : 0 ≤ x66_3
               · rw [if_pos c48] at H
                 have c48b0 : decide (0 ≤ x66_3) = true := decide_eq_true c48
                 clear c48
                 by_cases c49 : x66_3 < (l0_1.length : Int)
                 · rw [if_pos c49] at H
                   have c49b0 : decide (x66_3 < (l0_1.length : Int)) = true := decide_eq_true c49
                   clear c49
                   replace H := Option.bind_eq_some_iff.mp H
                   obtain ⟨t146, A500, H⟩ := H
                   replace H : (if t146 = true then (event_Right.l0 k3 l0_1 (l0_1.length : Int) (wrap64 (x66_3 + 1)) a0_0 l0_1 l0_2 a0_3 a0_4 a0_5 a0_6 l0_7 a0_8) else (some false)) = some r := H
                   have A50 := Aside0.mk A500
                   clear A500
                   by_cases c51 : t146 = true
                   · subst c51
                     have H1 : (event_Right.l0 k3 l0_1 (l0_1.length : Int) (wrap64 (x66_3 + 1)) a0_0 l0_1 l0_2 a0_3 a0_4 a0_5 a0_6 l0_7 a0_8) = some r := by rw [if_pos rfl] at H; exact H
                     clear H
                     have H := H1
                     clear H1
                     have H' := Aside0.mk H
                     clear H
                     have p144 : 0 ≤ (x66_3 : Int) := of_decide_eq_true (by first | (with_reducible assumption) | assumption)
                     have q144 : x66_3 < (l0_1.length : Int) := of_decide_eq_true (by first | (with_reducible assumption) | assumption)
                     obtain ⟨ad144, e144, hx144_0, hx144_1, hx144_2⟩ := at_T43 HR0_1.out x66_3 p144 q144
                     cases e144
                     replace hx144_0 := (HB.out.cell (World.block_lt_of_cell? w _ hx144_0)).trans hx144_0
                     replace hx144_1 := (HB.out.cell (World.block_lt_of_cell? w _ hx144_1)).trans hx144_1
                     replace hx144_2 := (HB.out.cell (World.block_lt_of_cell? w _ hx144_2)).trans hx144_2
                     replace p144 := eq_true p144
                     replace q144 := eq_true q144
                     go_wp2_with (first | ((with_reducible refine gate_dst (N := 4) rfl ?_); (try (refine gate_guard (by rfl) ?_; dsimp only)); refine box_event ?hg (N := 4) ?hd (cs := #[.int .i64 0, .int .i64 0, .int .i64 0]) (t := 43) ?hr ?_; (case hd => rfl); (case hg => rfl); (case hr => first | (go_simp; done) | (go_simp; rfl)); intro gb145 hg w52 hbox hb; have BK145 := Aside0.mk (hbox); have GW145 := qT HB hg; have GE145 := qS HB hg; replace HB := Aside0.mk (below_step (qW HB.out) hb); have NB139_145 := Aside0.mk ((by rw [hg]; exact Nat.ne_of_lt (blk_lt (g := gb139) (o := .cells #[.int .i64 a0_0, .slice (some ad144) l0_1.length c0_1, .slice A0_2 l0_2.length c0_2, .int .i64 a0_3, .int .i64 a0_4, .int .i64 a0_5, .int .i64 a0_6, .slice A0_7 l0_7.length c0_7, .string a0_8] 41 (0, 0)) (qB BK139.out)) : gb139 ≠ gb145)); have NB145_139 := Aside0.mk ((by rw [hg]; exact Nat.ne_of_gt (blk_lt (g := gb139) (o := .cells #[.int .i64 a0_0, .slice (some ad144) l0_1.length c0_1, .slice A0_2 l0_2.length c0_2, .int .i64 a0_3, .int .i64 a0_4, .int .i64 a0_5, .int .i64 a0_6, .slice A0_7 l0_7.length c0_7, .string a0_8] 41 (0, 0)) (qB BK139.out)) : gb145 ≠ gb139)); replace BK139 := Aside0.mk (blk_below (g := gb139) (o := .cells #[.int .i64 a0_0, .slice (some ad144) l0_1.length c0_1, .slice A0_2 l0_2.length c0_2, .int .i64 a0_3, .int .i64 a0_4, .int .i64 a0_5, .int .i64 a0_6, .slice A0_7 l0_7.length c0_7, .string a0_8] 41 (0, 0)) (qB BK139.out) hb); clear hb hbox hg; have hnb53 := NB145_139.out; have hnc53 := NB139_145.out; have hcz54_0 := qC BK145 0 rfl; have hcz54_1 := qC BK145 1 rfl; have hcz54_2 := qC BK145 2 rfl; have hfz54_0 := blk_frozen BK145.out 0; have hfz54_1 := blk_frozen BK145.out 1; have hfz54_2 := blk_frozen BK145.out 2) | ((with_reducible refine gate_callee (f := 99) rfl ?_); refine goesL_ (some 71) rfl rfl Tryz.func99 (by kernel_rfl) rfl #[.agg #[.int .i64 ((rd_T43 l0_1 x66_3).f0), .int .i64 ((rd_T43 l0_1 x66_3).f1), .int .i64 ((rd_T43 l0_1 x66_3).f2)]] rfl (by (try simp only [List.map_toArray, List.map_cons, List.map_nil]); first | done | rfl | (simp only [List.length_drop, List.length_take]; rfl)) ?_; (with_reducible refine (pitch_Right.calls ((rd_T43 l0_1 x66_3).f0) ((rd_T43 l0_1 x66_3).f1) ((rd_T43 l0_1 x66_3).f2) true _ A50.out).mono ?_); rintro e w55 ⟨rfl, hb⟩; refine ⟨_, rfl, ?_⟩; replace BK139 := Aside0.mk (blk_below (g := gb139) (o := .cells #[.int .i64 a0_0, .slice (some ad144) l0_1.length c0_1, .slice A0_2 l0_2.length c0_2, .int .i64 a0_3, .int .i64 a0_4, .int .i64 a0_5, .int .i64 a0_6, .slice A0_7 l0_7.length c0_7, .string a0_8] 41 (0, 0)) (by (with_reducible repeat (first | refine blk_drewN ?_ _ | refine blk_drew ?_ | refine blk_alloc ?_ _)); refine blk_far ?_ NB139_145.out _; (with_reducible repeat (first | refine blk_drewN ?_ _ | refine blk_drew ?_ | refine blk_alloc ?_ _)); refine blk_far ?_ NB139_145.out _; (with_reducible repeat (first | refine blk_drewN ?_ _ | refine blk_drew ?_ | refine blk_alloc ?_ _)); refine blk_far ?_ NB139_145.out _; (with_reducible repeat (first | refine blk_drewN ?_ _ | refine blk_drew ?_ | refine blk_alloc ?_ _)); exact BK139.out) hb); replace BK145 := Aside0.mk (blk_below (g := gb145) (o := .cells #[.int .i64 ((rd_T43 l0_1 x66_3).f0), .int .i64 ((rd_T43 l0_1 x66_3).f1), .int .i64 ((rd_T43 l0_1 x66_3).f2)] 43 (0, 0)) (by (with_reducible repeat (first | refine blk_drewN ?_ _ | refine blk_drew ?_ | refine blk_alloc ?_ _)); refine blk_put (cs := #[.int .i64 ((rd_T43 l0_1 x66_3).f0), .int .i64 ((rd_T43 l0_1 x66_3).f1), .int .i64 0]) ?_ 2 _ rfl; (with_reducible repeat (first | refine blk_drewN ?_ _ | refine blk_drew ?_ | refine blk_alloc ?_ _)); refine blk_put (cs := #[.int .i64 ((rd_T43 l0_1 x66_3).f0), .int .i64 0, .int .i64 0]) ?_ 1 _ rfl; (with_reducible repeat (first | refine blk_drewN ?_ _ | refine blk_drew ?_ | refine blk_alloc ?_ _)); refine blk_put (cs := #[.int .i64 0, .int .i64 0, .int .i64 0]) ?_ 0 _ rfl; (with_reducible repeat (first | refine blk_drewN ?_ _ | refine blk_drew ?_ | refine blk_alloc ?_ _)); exact BK145.out) hb); replace HB := Aside0.mk (below_step (qW HB.out) hb); (try clear hb); (try clear hb2); (try clear hk); (try clear hi)))
                     go_roundg k3
                     case measure => have := HJ1.out; have := HJ37.out; have := HK3.out; omega
                     case rel => exact ⟨(wrap64 (x66_3 + 1)), (by first | rfl | (simp; done) | (simp [*]; done) | (simp [wrap64]; done)), H', ⟨by have := HJ1.out; have := HJ37.out; have := HK3.out; omega⟩, ⟨by (with_reducible repeat (first | refine blk_drewN ?_ _ | refine blk_drew ?_ | refine blk_alloc ?_ _)); exact BK139.out⟩, ⟨by exact qW HB.out⟩⟩
                   · replace c51 := Bool.eq_false_iff.mpr c51
                     subst c51
                     have H1 : (some false) = some r := by rw [if_neg (show ¬ (false = true) by decide)] at H; exact H
                     clear H
                     have H := H1
                     clear H1
                     obtain rfl := Option.some.inj H
                     have p144 : 0 ≤ (x66_3 : Int) := of_decide_eq_true (by first | (with_reducible assumption) | assumption)
                     have q144 : x66_3 < (l0_1.length : Int) := of_decide_eq_true (by first | (with_reducible assumption) | assumption)
                     obtain ⟨ad144, e144, hx144_0, hx144_1, hx144_2⟩ := at_T43 HR0_1.out x66_3 p144 q144
                     cases e144
                     replace hx144_0 := (HB.out.cell (World.block_lt_of_cell? w _ hx144_0)).trans hx144_0
                     replace hx144_1 := (HB.out.cell (World.block_lt_of_cell? w _ hx144_1)).trans hx144_1
                     replace hx144_2 := (HB.out.cell (World.block_lt_of_cell? w _ hx144_2)).trans hx144_2
                     replace p144 := eq_true p144
                     replace q144 := eq_true q144
                     go_wp2_with (first | ((with_reducible refine gate_dst (N := 4) rfl ?_); (try (refine gate_guard (by rfl) ?_; dsimp only)); refine box_event ?hg (N := 4) ?hd (cs := #[.int .i64 0, .int .i64 0, .int .i64 0]) (t := 43) ?hr ?_; (case hd => rfl); (case hg => rfl); (case hr => first | (go_simp; done) | (go_simp; rfl)); intro gb145 hg w56 hbox hb; have BK145 := Aside0.mk (hbox); have GW145 := qT HB hg; have GE145 := qS HB hg; replace HB := Aside0.mk (below_step (qW HB.out) hb); have NB139_145 := Aside0.mk ((by rw [hg]; exact Nat.ne_of_lt (blk_lt (g := gb139) (o := .cells #[.int .i64 a0_0, .slice (some ad144) l0_1.length c0_1, .slice A0_2 l0_2.length c0_2, .int .i64 a0_3, .int .i64 a0_4, .int .i64 a0_5, .int .i64 a0_6, .slice A0_7 l0_7.length c0_7, .string a0_8] 41 (0, 0)) (qB BK139.out)) : gb139 ≠ gb145)); have NB145_139 := Aside0.mk ((by rw [hg]; exact Nat.ne_of_gt (blk_lt (g := gb139) (o := .cells #[.int .i64 a0_0, .slice (some ad144) l0_1.length c0_1, .slice A0_2 l0_2.length c0_2, .int .i64 a0_3, .int .i64 a0_4, .int .i64 a0_5, .int .i64 a0_6, .slice A0_7 l0_7.length c0_7, .string a0_8] 41 (0, 0)) (qB BK139.out)) : gb145 ≠ gb139)); replace BK139 := Aside0.mk (blk_below (g := gb139) (o := .cells #[.int .i64 a0_0, .slice (some ad144) l0_1.length c0_1, .slice A0_2 l0_2.length c0_2, .int .i64 a0_3, .int .i64 a0_4, .int .i64 a0_5, .int .i64 a0_6, .slice A0_7 l0_7.length c0_7, .string a0_8] 41 (0, 0)) (qB BK139.out) hb); clear hb hbox hg; have hnb57 := NB145_139.out; have hnc57 := NB139_145.out; have hcz58_0 := qC BK145 0 rfl; have hcz58_1 := qC BK145 1 rfl; have hcz58_2 := qC BK145 2 rfl; have hfz58_0 := blk_frozen BK145.out 0; have hfz58_1 := blk_frozen BK145.out 1; have hfz58_2 := blk_frozen BK145.out 2) | ((with_reducible refine gate_callee (f := 99) rfl ?_); refine goesL_ (some 71) rfl rfl Tryz.func99 (by kernel_rfl) rfl #[.agg #[.int .i64 ((rd_T43 l0_1 x66_3).f0), .int .i64 ((rd_T43 l0_1 x66_3).f1), .int .i64 ((rd_T43 l0_1 x66_3).f2)]] rfl (by (try simp only [List.map_toArray, List.map_cons, List.map_nil]); first | done | rfl | (simp only [List.length_drop, List.length_take]; rfl)) ?_; (with_reducible refine (pitch_Right.calls ((rd_T43 l0_1 x66_3).f0) ((rd_T43 l0_1 x66_3).f1) ((rd_T43 l0_1 x66_3).f2) false _ A50.out).mono ?_); rintro e w59 ⟨rfl, hb⟩; refine ⟨_, rfl, ?_⟩; replace BK139 := Aside0.mk (blk_below (g := gb139) (o := .cells #[.int .i64 a0_0, .slice (some ad144) l0_1.length c0_1, .slice A0_2 l0_2.length c0_2, .int .i64 a0_3, .int .i64 a0_4, .int .i64 a0_5, .int .i64 a0_6, .slice A0_7 l0_7.length c0_7, .string a0_8] 41 (0, 0)) (by (with_reducible repeat (first | refine blk_drewN ?_ _ | refine blk_drew ?_ | refine blk_alloc ?_ _)); refine blk_far ?_ NB139_145.out _; (with_reducible repeat (first | refine blk_drewN ?_ _ | refine blk_drew ?_ | refine blk_alloc ?_ _)); refine blk_far ?_ NB139_145.out _; (with_reducible repeat (first | refine blk_drewN ?_ _ | refine blk_drew ?_ | refine blk_alloc ?_ _)); refine blk_far ?_ NB139_145.out _; (with_reducible repeat (first | refine blk_drewN ?_ _ | refine blk_drew ?_ | refine blk_alloc ?_ _)); exact BK139.out) hb); replace BK145 := Aside0.mk (blk_below (g := gb145) (o := .cells #[.int .i64 ((rd_T43 l0_1 x66_3).f0), .int .i64 ((rd_T43 l0_1 x66_3).f1), .int .i64 ((rd_T43 l0_1 x66_3).f2)] 43 (0, 0)) (by (with_reducible repeat (first | refine blk_drewN ?_ _ | refine blk_drew ?_ | refine blk_alloc ?_ _)); refine blk_put (cs := #[.int .i64 ((rd_T43 l0_1 x66_3).f0), .int .i64 ((rd_T43 l0_1 x66_3).f1), .int .i64 0]) ?_ 2 _ rfl; (with_reducible repeat (first | refine blk_drewN ?_ _ | refine blk_drew ?_ | refine blk_alloc ?_ _)); refine blk_put (cs := #[.int .i64 ((rd_T43 l0_1 x66_3).f0), .int .i64 0, .int .i64 0]) ?_ 1 _ rfl; (with_reducible repeat (first | refine blk_drewN ?_ _ | refine blk_drew ?_ | refine blk_alloc ?_ _)); refine blk_put (cs := #[.int .i64 0, .int .i64 0, .int .i64 0]) ?_ 0 _ rfl; (with_reducible repeat (first | refine blk_drewN ?_ _ | refine blk_drew ?_ | refine blk_alloc ?_ _)); exact BK145.out) hb); replace HB := Aside0.mk (below_step (qW HB.out) hb); (try clear hb); (try clear hb2); (try clear hk); (try clear hi)))
                     go_ret
                     exact ⟨by first | rfl | (simp [errW_none, errW_some] <;> rfl) | (simp [*, errW_none, errW_some] <;> rfl), by exact qW HB.out⟩
                 · rw [if_neg c49] at H
                   exact absurd H (by simp)
               · rw [if_neg c48] at H
                 exact absurd H (by simp)
             · rw [if_neg c47] at H
               have c47b0 : decide (x66_3 < (l0_1.length : Int)) = false := decide_eq_false c47
               clear c47
               replace H := Option.bind_eq_some_iff.mp H
               obtain ⟨t147, A600, H⟩ := H
               replace H : (some t147) = some r := H
               have A60 := Aside0.mk A600
               clear A600
               obtain rfl := Option.some.inj H
               have hcz61_0 := qC BK139 0 rfl
               have hcz61_1 := qC BK139 1 rfl
               have hcz61_2 := qC BK139 2 rfl
               have hcz61_3 := qC BK139 3 rfl
               have hcz61_4 := qC BK139 4 rfl
               have hcz61_5 := qC BK139 5 rfl
               have hcz61_6 := qC BK139 6 rfl
               have hcz61_7 := qC BK139 7 rfl
               have hcz61_8 := qC BK139 8 rfl
               have hfz61_0 := blk_frozen BK139.out 0
               have hfz61_1 := blk_frozen BK139.out 1
               have hfz61_2 := blk_frozen BK139.out 2
               have hfz61_3 := blk_frozen BK139.out 3
               have hfz61_4 := blk_frozen BK139.out 4
               have hfz61_5 := blk_frozen BK139.out 5
               have hfz61_6 := blk_frozen BK139.out 6
               have hfz61_7 := blk_frozen BK139.out 7
               have hfz61_8 := blk_frozen BK139.out 8
               go_wp2_with (first | ((with_reducible refine gate_callee (f := 100) rfl ?_); refine goesL_ (some 76) rfl rfl Tryz.func100 (by kernel_rfl) rfl #[.slice A0_1 l0_1.length c0_1, .func (.func 101) #[] #[]] rfl (by (try simp only [List.map_toArray, List.map_cons, List.map_nil]); first | done | rfl | (simp only [List.length_drop, List.length_take]; rfl)) ?_; (with_reducible refine (event_Right_2.calls k3 _ _ l0_1 t147 _ ?side1 ?side2 A60.out).mono ?_); (case side1 => repeat (first | exact (Kd.C_below HR0_1.out HB.out) | (with_reducible refine Kd.C_alloc ?_ _) | (with_reducible refine Kd.C_drewN ?_ _) | (with_reducible refine Kd.C_drew ?_))); (case side2 => exact HC0_1.out); rintro e w62 ⟨rfl, hb⟩; refine ⟨_, rfl, ?_⟩; replace BK139 := qD BK139 hb; replace HB := Aside0.mk (below_step (qW HB.out) hb); (try clear hb); (try clear hb2); (try clear hk); (try clear hi)))
               go_ret
               exact ⟨by first | rfl | (simp [errW_none, errW_some] <;> rfl) | (simp [*, errW_none, errW_some] <;> rfl), by exact qW HB.out⟩

end Go.Proofs.YtocjbedacnlaaaaGreatDoor.Q
