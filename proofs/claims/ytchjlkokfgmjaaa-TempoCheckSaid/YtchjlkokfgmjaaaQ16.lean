-- Written by a program of this session (myprint.py), function by function.
import Derived.Test.YtchjlkokfgmjaaaQ0
import Derived.Test.YtchjlkokfgmjaaaQ5
import Derived.Test.YtchjlkokfgmjaaaQ7
import Derived.Test.YtchjlkokfgmjaaaQ8
import Derived.BigRegion
import Derived.ChangeAlike
import Derived.IntWalk
import Derived.RegionTactic
import Derived.Shelf.Abstract
namespace Go.Proofs.Ytchjlkokfgmjaaa.Q
open Go.RowKit Go.Proofs.YtchjlkokfgmjaaaW.PrintWords Go.Proofs.YtchjlkokfgmjaaaW.PrintLast Go.Proofs.YtchjlkokfgmjaaaW.PrintMore
attribute [local go_sem] max2_int min2_int max_two min_two max_three min_three max_four min_four   -- for this text's walks alone
set_option linter.unusedVariables false
set_option linter.unusedSimpArgs false

/-! ### partitalaw11_TempoCheck: function 9 -/
/-- Is the answer for a list as the law wants it: the first wrong one, whatever stands behind it; each beginning likewise. -/
def goodB (y : List S36) : Bool :=
  match tempo_Check.f 40 y with
  | some (n, e) =>
    (e == 0 && (n == 0 && ((List.range (y.length + 1)).all fun i => match tempo_Check.f 40 (y.take i) with | some (_, f) => f == 0 | none => false))) ||
    (e == 110 && (decide (0 ≤ n) && (decide (n < y.length) && ((List.range (y.length + 1)).all fun i => match tempo_Check.f 40 (y.take i) with | some (p, f) => if n < i then p == n && f == 110 else f == 0 | none => false))))
  | none => false
theorem good_of {y : List S36} (h : goodB y = true) : (tempo_Check.f 40 y = some (0, 0) ∧ ∀ i : Nat, i ≤ y.length → ∃ p, tempo_Check.f 40 (y.take i) = some (p, 0)) ∨
    ∃ n : Int, 0 ≤ n ∧ n < y.length ∧ tempo_Check.f 40 y = some (n, 110) ∧ ∀ i : Nat, i ≤ y.length → (n < i → tempo_Check.f 40 (y.take i) = some (n, 110)) ∧ (¬ n < i → ∃ p, tempo_Check.f 40 (y.take i) = some (p, 0)) := by
  unfold goodB at h
  cases hc : tempo_Check.f 40 y with
  | none => rw [hc] at h; cases h
  | some r =>
    obtain ⟨n, e⟩ := r
    rw [hc] at h
    simp only [Bool.or_eq_true, Bool.and_eq_true, beq_iff_eq, decide_eq_true_eq, List.all_eq_true, List.mem_range] at h
    rcases h with ⟨rfl, rfl, h⟩ | ⟨rfl, h0, h1, h⟩
    · left
      refine ⟨rfl, fun i hi => ?_⟩
      have hx := h i (by omega)
      cases hy : tempo_Check.f 40 (y.take i) with
      | none => rw [hy] at hx; cases hx
      | some r =>
        obtain ⟨p, f⟩ := r
        rw [hy] at hx
        have : f = 0 := by simpa using hx
        subst this
        exact ⟨p, rfl⟩
    · right
      refine ⟨n, h0, h1, rfl, fun i hi => ?_⟩
      have hx := h i (by omega)
      cases hy : tempo_Check.f 40 (y.take i) with
      | none => rw [hy] at hx; cases hx
      | some r =>
        obtain ⟨p, f⟩ := r
        rw [hy] at hx
        constructor
        · intro hn
          simp only [if_pos hn, Bool.and_eq_true, beq_iff_eq] at hx
          rw [hx.1, hx.2]
        · intro hn
          simp only [if_neg hn, beq_iff_eq] at hx
          subst hx
          exact ⟨p, rfl⟩
def tcG.f (k : Nat) (l0 : List (S36)) (l1 : List (S36)) (a2 : Int) (a3_0 : Int) (a3_1 : Int) (a3_2 : Int) (a3_3 : Bool) : Option (Bool) := (partitalaw11_awake.f k).bind fun t142 => ((partitalaw11_Map.f k l1).bind fun t143 => ((partitalaw11_pick.f a2 (wrap64 ((t143.length : Int) + 1))).bind fun t146 => (if 0 ≤ t146 then (if t146 ≤ (t143.length : Int) then ((some (t143.take (t146 : Int).toNat : List (S36))).bind fun y147 => (if ([] : List (S36)).length + y147.length < 4398046511104 then ((some (([] : List (S36)) ++ y147 : List (S36))).bind fun y151 => ((some (([(⟨(⟨a3_0, a3_1⟩ : S27), a3_2, a3_3⟩ : S36)] : List (S36)) : List (S36))).bind fun y154 => (if y151.length + y154.length < 4398046511104 then (if (y151 ++ y154).length + (t143.drop (t146 : Int).toNat).length < 4398046511104 then (some t142) else (none)) else (none)))) else (none))) else (none)) else (none))))
theorem tcG.mono : ∀ a0 a1 a2 a3 a4 a5 a6 k, LeO (tcG.f k a0 a1 a2 a3 a4 a5 a6) (tcG.f (k + 1) a0 a1 a2 a3 a4 a5 a6) := by
  intro a0 a1 a2 a3 a4 a5 a6 k
  unfold tcG.f
  repeat' first
      | (with_reducible exact partitalaw11_Map.mono _ _)
      | (with_reducible exact partitalaw11_awake.mono _)
      | (with_reducible exact LeO.refl _)
      | (with_reducible exact LeO.none _)
      | (with_reducible refine LeO.ite ?_ ?_)
      | (with_reducible refine LeO.bind ?_ (fun _ => ?_))
      | exact partitalaw11_Map.mono _ _
      | exact partitalaw11_awake.mono _
      | exact LeO.none _
      | refine LeO.ite ?_ ?_
      | refine LeO.bind ?_ (fun _ => ?_)
def partitalaw11_TempoCheck.T4 : Bool × List (List Nat × List Nat) := (true, [([], []), ([], []), ([0, 1], [0, 1]), ([2], [2]), ([], []), ([4], [4]), ([3, 5, 3], [3, 5]), ([], []), ([], []), ([7, 8], [7, 8]), ([6, 9, 6], [6, 9]), ([10, 10, 0, 1, 2, 3, 4, 5, 6, 7, 8, 9, 10], [10])])
def partitalaw11_TempoCheck.B4 : List Nat := [0, 0, 3, 7, 0, 16, 63, 0, 0, 384, 1023, 2047]
theorem partitalaw11_TempoCheck.tab4 : rtab .any (opsOf Try.f9 4) = partitalaw11_TempoCheck.T4 := by kernel_rfl
theorem partitalaw11_TempoCheck.bits4 : waitsOk partitalaw11_TempoCheck.T4.2 partitalaw11_TempoCheck.B4 = true := by kernel_rfl
set_option maxHeartbeats 8000000 in
set_option maxRecDepth 100000 in
theorem tcG.calls (k : Nat) (A0 : Option Addr) (c0 : Nat) (l0 : List (S36)) (A1 : Option Addr) (c1 : Nat) (l1 : List (S36)) (a2 : Int) (a3_0 : Int) (a3_1 : Int) (a3_2 : Int) (a3_3 : Bool) (r : Bool) (w : World) (hr0 : Kd.C k36 w A0 l0.length l0) (hc0 : l0.length ≤ c0) (hr1 : Kd.C k36 w A1 l1.length l1) (hc1 : l1.length ≤ c1) (h : tcG.f k l0 l1 a2 a3_0 a3_1 a3_2 a3_3 = some r) (hgd : ∀ m q, partitalaw11_Map.f k l1 = some m → partitalaw11_pick.f a2 (wrap64 ((m.length : Int) + 1)) = some q → goodB (m.take q.toNat ++ ([(⟨(⟨a3_0, a3_1⟩ : S27), a3_2, a3_3⟩ : S36)] : List (S36)) ++ m.drop q.toNat) = true ∧ goodB m = true) (hg0 : goodB (l0.take 8) = true) (hl0 : l0.length < 4398046511104) :
    Calls Try.prog 9 #[.slice A0 l0.length c0, .slice A1 l1.length c1, .int .i64 a2, .agg #[.int .i64 a3_0, .int .i64 a3_1, .int .i64 a3_2, .bool a3_3]] w fun e w' => e = .returned (.bool r) ∧ Below w.heap.size w w' := by
  have HGD := Aside0.mk hgd
  have HG0 := Aside0.mk (And.intro hg0 hl0)
  clear hgd hg0 hl0
  have hu36 := Try.underlying36
  have HR0 := Aside0.mk hr0
  have HC0 := Aside0.mk hc0
  clear hr0 hc0
  have HR1 := Aside0.mk hr1
  have HC1 := Aside0.mk hc1
  clear hr1 hc1
  have HB := Aside0.mk (Below.refl w.heap.size w)
  have H : ((partitalaw11_awake.f k).bind fun t142 => ((partitalaw11_Map.f k l1).bind fun t143 => ((partitalaw11_pick.f a2 (wrap64 ((t143.length : Int) + 1))).bind fun t146 => (if 0 ≤ t146 then (if t146 ≤ (t143.length : Int) then ((some (t143.take (t146 : Int).toNat : List (S36))).bind fun y147 => (if ([] : List (S36)).length + y147.length < 4398046511104 then ((some (([] : List (S36)) ++ y147 : List (S36))).bind fun y151 => ((some (([(⟨(⟨a3_0, a3_1⟩ : S27), a3_2, a3_3⟩ : S36)] : List (S36)) : List (S36))).bind fun y154 => (if y151.length + y154.length < 4398046511104 then (if (y151 ++ y154).length + (t143.drop (t146 : Int).toNat).length < 4398046511104 then (some t142) else (none)) else (none)))) else (none))) else (none)) else (none))))) = some r := h
  clear h
  replace H := Option.bind_eq_some_iff.mp H
  obtain ⟨t142, A50, H⟩ := H
  replace H : ((partitalaw11_Map.f k l1).bind fun t143 => ((partitalaw11_pick.f a2 (wrap64 ((t143.length : Int) + 1))).bind fun t146 => (if 0 ≤ t146 then (if t146 ≤ (t143.length : Int) then ((some (t143.take (t146 : Int).toNat : List (S36))).bind fun y147 => (if ([] : List (S36)).length + y147.length < 4398046511104 then ((some (([] : List (S36)) ++ y147 : List (S36))).bind fun y151 => ((some (([(⟨(⟨a3_0, a3_1⟩ : S27), a3_2, a3_3⟩ : S36)] : List (S36)) : List (S36))).bind fun y154 => (if y151.length + y154.length < 4398046511104 then (if (y151 ++ y154).length + (t143.drop (t146 : Int).toNat).length < 4398046511104 then (some t142) else (none)) else (none)))) else (none))) else (none)) else (none)))) = some r := H
  have A5 := Aside0.mk A50
  clear A50
  replace H := Option.bind_eq_some_iff.mp H
  obtain ⟨t143, A60, H⟩ := H
  replace H : ((partitalaw11_pick.f a2 (wrap64 ((t143.length : Int) + 1))).bind fun t146 => (if 0 ≤ t146 then (if t146 ≤ (t143.length : Int) then ((some (t143.take (t146 : Int).toNat : List (S36))).bind fun y147 => (if ([] : List (S36)).length + y147.length < 4398046511104 then ((some (([] : List (S36)) ++ y147 : List (S36))).bind fun y151 => ((some (([(⟨(⟨a3_0, a3_1⟩ : S27), a3_2, a3_3⟩ : S36)] : List (S36)) : List (S36))).bind fun y154 => (if y151.length + y154.length < 4398046511104 then (if (y151 ++ y154).length + (t143.drop (t146 : Int).toNat).length < 4398046511104 then (some t142) else (none)) else (none)))) else (none))) else (none)) else (none))) = some r := H
  have A6 := Aside0.mk A60
  clear A60
  replace H := Option.bind_eq_some_iff.mp H
  obtain ⟨t146, A70, H⟩ := H
  replace H : (if 0 ≤ t146 then (if t146 ≤ (t143.length : Int) then ((some (t143.take (t146 : Int).toNat : List (S36))).bind fun y147 => (if ([] : List (S36)).length + y147.length < 4398046511104 then ((some (([] : List (S36)) ++ y147 : List (S36))).bind fun y151 => ((some (([(⟨(⟨a3_0, a3_1⟩ : S27), a3_2, a3_3⟩ : S36)] : List (S36)) : List (S36))).bind fun y154 => (if y151.length + y154.length < 4398046511104 then (if (y151 ++ y154).length + (t143.drop (t146 : Int).toNat).length < 4398046511104 then (some t142) else (none)) else (none)))) else (none))) else (none)) else (none)) = some r := H
  have A7 := Aside0.mk A70
  clear A70
  by_cases c8 : 0 ≤ t146
  · rw [if_pos c8] at H
    have c8b0 := eq_true c8
    have c8b1 : decide (0 ≤ t146) = true := decide_eq_true c8
    clear c8
    by_cases c9 : t146 ≤ (t143.length : Int)
    · rw [if_pos c9] at H
      have c9b0 := eq_true c9
      have c9b1 : decide (t146 ≤ (t143.length : Int)) = true := decide_eq_true c9
      clear c9
      obtain ⟨y147, hy147⟩ : ∃ y_ : List (S36), y_ = (t143.take (t146 : Int).toNat) := ⟨_, rfl⟩
      replace H : (if ([] : List (S36)).length + y147.length < 4398046511104 then ((some (([] : List (S36)) ++ y147 : List (S36))).bind fun y151 => ((some (([(⟨(⟨a3_0, a3_1⟩ : S27), a3_2, a3_3⟩ : S36)] : List (S36)) : List (S36))).bind fun y154 => (if y151.length + y154.length < 4398046511104 then (if (y151 ++ y154).length + (t143.drop (t146 : Int).toNat).length < 4398046511104 then (some t142) else (none)) else (none)))) else (none)) = some r := by first | (rw [hy147]; with_reducible exact H) | (have H2_ := (Option.bind_some _ _).symm.trans H; rw [hy147]; with_reducible exact H2_) | (have H2_ := (Option.bind_some _ _).symm.trans H; with_reducible exact H2_) | with_reducible exact H | (rw [hy147]; exact H) | exact H
      have Ny147 := Aside0.mk hy147
      clear hy147
      by_cases c10 : ([] : List (S36)).length + y147.length < 4398046511104
      · rw [if_pos c10] at H
        have LMc10 := Aside0.mk c10
        clear c10
        obtain ⟨y151, hy151⟩ : ∃ y_ : List (S36), y_ = (([] : List (S36)) ++ y147) := ⟨_, rfl⟩
        replace H : ((some (([(⟨(⟨a3_0, a3_1⟩ : S27), a3_2, a3_3⟩ : S36)] : List (S36)) : List (S36))).bind fun y154 => (if y151.length + y154.length < 4398046511104 then (if (y151 ++ y154).length + (t143.drop (t146 : Int).toNat).length < 4398046511104 then (some t142) else (none)) else (none))) = some r := by first | (rw [hy151]; with_reducible exact H) | (have H2_ := (Option.bind_some _ _).symm.trans H; rw [hy151]; with_reducible exact H2_) | (have H2_ := (Option.bind_some _ _).symm.trans H; with_reducible exact H2_) | with_reducible exact H | (rw [hy151]; exact H) | exact H
        have Ny151 := Aside0.mk hy151
        clear hy151
        obtain ⟨y154, hy154⟩ : ∃ y_ : List (S36), y_ = (([(⟨(⟨a3_0, a3_1⟩ : S27), a3_2, a3_3⟩ : S36)] : List (S36))) := ⟨_, rfl⟩
        replace H : (if y151.length + y154.length < 4398046511104 then (if (y151 ++ y154).length + (t143.drop (t146 : Int).toNat).length < 4398046511104 then (some t142) else (none)) else (none)) = some r := by first | (rw [hy154]; with_reducible exact H) | (have H2_ := (Option.bind_some _ _).symm.trans H; rw [hy154]; with_reducible exact H2_) | (have H2_ := (Option.bind_some _ _).symm.trans H; with_reducible exact H2_) | with_reducible exact H | (rw [hy154]; exact H) | exact H
        have Ny154 := Aside0.mk hy154
        clear hy154
        by_cases c11 : y151.length + y154.length < 4398046511104
        · rw [if_pos c11] at H
          have LMc11 := Aside0.mk c11
          clear c11
          obtain ⟨y157, hy157⟩ : ∃ y_ : List (S36), y_ = (y151 ++ y154) := ⟨_, rfl⟩
          replace H : (if y157.length + (t143.drop (t146 : Int).toNat).length < 4398046511104 then (some t142) else (none)) = some r := by first | (rw [hy157]; with_reducible exact H) | (have H2_ := (Option.bind_some _ _).symm.trans H; rw [hy157]; with_reducible exact H2_) | (have H2_ := (Option.bind_some _ _).symm.trans H; with_reducible exact H2_) | with_reducible exact H | (rw [hy157]; exact H) | exact H
          have Ny157 := Aside0.mk hy157
          clear hy157
          have c12b0 := eq_true (of_decide_eq_true (by first | (with_reducible assumption) | assumption) : 0 ≤ t146)
          have c13b0 := eq_true (of_decide_eq_true (by first | (with_reducible assumption) | assumption) : t146 ≤ (t143.length : Int))
          obtain ⟨y160, hy160⟩ : ∃ y_ : List (S36), y_ = (t143.drop (t146 : Int).toNat) := ⟨_, rfl⟩
          replace H : (if y157.length + y160.length < 4398046511104 then (some t142) else (none)) = some r := by first | (rw [hy160]; with_reducible exact H) | (have H2_ := (Option.bind_some _ _).symm.trans H; rw [hy160]; with_reducible exact H2_) | (have H2_ := (Option.bind_some _ _).symm.trans H; with_reducible exact H2_) | with_reducible exact H | (rw [hy160]; exact H) | exact H
          have Ny160 := Aside0.mk hy160
          clear hy160
          by_cases c14 : y157.length + y160.length < 4398046511104
          · rw [if_pos c14] at H
            have LMc14 := Aside0.mk c14
            clear c14
            obtain ⟨y164, hy164⟩ : ∃ y_ : List (S36), y_ = (y157 ++ y160) := ⟨_, rfl⟩
            replace H : (some t142) = some r := by first | (rw [hy164]; with_reducible exact H) | (have H2_ := (Option.bind_some _ _).symm.trans H; rw [hy164]; with_reducible exact H2_) | (have H2_ := (Option.bind_some _ _).symm.trans H; with_reducible exact H2_) | with_reducible exact H | (rw [hy164]; exact H) | exact H
            have Ny164 := Aside0.mk hy164
            clear hy164
            obtain rfl := Option.some.inj H
            go_enter Try.func9, Try.ntmps9
            try go_wp2_with (first | ((with_reducible refine gate_dst (N := 7) rfl ?_); refine box_event ?hg (N := 7) ?hd (cs := #[.int .i64 a3_0, .int .i64 a3_1, .int .i64 a3_2, .bool a3_3]) (t := 36) ?hr ?_; (case hd => rfl); (case hg => rfl); (case hr => first | (go_simp; done) | (go_simp; rfl)); intro gb141 hg w15 hbox hb; have n0_ := Aside0.mk (below_step (by repeat (first | (with_reducible first | exact HB.out | apply below_alloc | apply pw_below_drewN | apply below_drew1) | exact HB.out)) hb); have n1_ := Aside0.mk (hbox); have n2_ := Aside0.mk ((by rw [hg]; exact (below_size (by repeat (first | (with_reducible first | exact HB.out | apply below_alloc | apply pw_below_drewN | apply below_drew1) | exact HB.out))) : w.heap.size ≤ gb141)); have n3_ := Aside0.mk ((by rw [hg]; exact (below_size (by repeat (first | (with_reducible first | exact HB.out | apply below_alloc | apply pw_below_drewN | apply below_drew1) | exact HB.out))) : w.heap.size ≤ gb141)); clear HB; have HB := n0_; have BK141 := n1_; have GW141 := n2_; have GE141 := n3_; clear n0_ n1_ n2_ n3_; clear hb hbox hg) | ((with_reducible refine gate_callee (f := 11) rfl ?_); refine goesL_ (some 20) rfl rfl Try.func11 (by kernel_rfl) rfl #[] rfl (by (try simp only [List.map_toArray, List.map_cons, List.map_nil]); first | done | rfl | (simp only [List.length_drop, List.length_take]; rfl)) ?_; (with_reducible refine (partitalaw11_awake.calls k  t142 _ A5.out).mono ?_); rintro e w16 ⟨rfl, hb⟩; refine ⟨_, rfl, ?_⟩; have n0_ := Aside0.mk (blk_below (g := gb141) (o := .cells #[.int .i64 a3_0, .int .i64 a3_1, .int .i64 a3_2, .bool a3_3] 36 (0, 0)) (by (with_reducible repeat (first | refine blk_drewN ?_ _ | refine blk_drew ?_ | refine blk_alloc ?_ _)); exact BK141.out) hb); have n1_ := Aside0.mk (below_step (by repeat (first | (with_reducible first | exact HB.out | apply below_alloc | apply pw_below_drewN | apply below_drew1 | refine below_set ?_ GE141.out) | exact HB.out)) hb); clear BK141; clear HB; have BK141 := n0_; have HB := n1_; clear n0_ n1_; (try clear hb); (try clear hb2); (try clear hk); (try clear hi)) | ((with_reducible refine gate_callee (f := 12) rfl ?_); refine goesL_ (some 22) rfl rfl Try.func12 (by kernel_rfl) rfl #[.slice A1 l1.length c1] rfl (by (try simp only [List.map_toArray, List.map_cons, List.map_nil]); first | done | rfl | (simp only [List.length_drop, List.length_take]; rfl)) ?_; (with_reducible refine (partitalaw11_Map.calls k _ _ l1 t143 _ ?side1 ?side2 A6.out).mono ?_); (case side1 => repeat (first | exact (Kd.C_below HR1.out HB.out) | (with_reducible refine Kd.C_alloc ?_ _) | (with_reducible refine Kd.C_drewN ?_ _) | (with_reducible refine Kd.C_drew ?_))); (case side2 => exact HC1.out); rintro e w17 ⟨v144, rfl, ho0, hb⟩; refine ⟨_, rfl, ?_⟩; have n0_ := Aside0.mk (Kd.R_lower (Kd.R_newB ho0 (g := gb141) (o := .cells #[.int .i64 a3_0, .int .i64 a3_1, .int .i64 a3_2, .bool a3_3] 36 (0, 0)) (by (with_reducible repeat (first | refine blk_drewN ?_ _ | refine blk_drew ?_ | refine blk_alloc ?_ _)); exact BK141.out)) (below_size (by repeat (first | (with_reducible first | exact HB.out | apply below_alloc | apply pw_below_drewN | apply below_drew1 | refine below_set ?_ GE141.out) | exact HB.out)))); have n1_ := Aside0.mk (blk_below (g := gb141) (o := .cells #[.int .i64 a3_0, .int .i64 a3_1, .int .i64 a3_2, .bool a3_3] 36 (0, 0)) (by (with_reducible repeat (first | refine blk_drewN ?_ _ | refine blk_drew ?_ | refine blk_alloc ?_ _)); exact BK141.out) hb); have n2_ := Aside0.mk (below_step (by repeat (first | (with_reducible first | exact HB.out | apply below_alloc | apply pw_below_drewN | apply below_drew1 | refine below_set ?_ GE141.out) | exact HB.out)) hb); clear BK141; clear HB; have HO145 := n0_; have BK141 := n1_; have HB := n2_; clear n0_ n1_ n2_; (try clear hb); (try clear hb2); (try clear hk); (try clear hi); (try clear ho0); obtain ⟨Ao18, co18, eo18⟩ := Kd.R_slice HO145.out; subst eo18) | ((with_reducible refine gate_callee (f := 13) rfl ?_); refine goesL_ (some 27) rfl rfl Try.func13 (by kernel_rfl) rfl #[.int .i64 a2, .int .i64 (wrap64 ((t143.length : Int) + 1))] rfl (by (try simp only [List.map_toArray, List.map_cons, List.map_nil]); first | done | rfl | (simp only [List.length_drop, List.length_take]; rfl)) ?_; (with_reducible refine (partitalaw11_pick.calls a2 (wrap64 ((t143.length : Int) + 1)) t146 _ A7.out).mono ?_); rintro e w' ⟨rfl, ⟨nd, rfl⟩⟩; refine ⟨_, rfl, ?_⟩))
            ((generalize hq_ : World.drewN w17 nd = w17; have n0_ : Aside0 (Kd.R k36 36 w17 w.heap.size (fun k_ => True ∧ k_ ≠ gb141) (.slice Ao18 t143.length co18) t143) := ⟨by rw [← hq_]; exact (by (with_reducible repeat (first | apply Kd.R_alloc | apply Kd.R_drewN | apply Kd.R_drew)); exact HO145.out)⟩; have n1_ : Aside0 (w17.heap[gb141]? = some (.cells #[.int .i64 a3_0, .int .i64 a3_1, .int .i64 a3_2, .bool a3_3] 36 (0, 0))) := ⟨by rw [← hq_]; exact (by (with_reducible repeat (first | refine blk_drewN ?_ _ | refine blk_drew ?_ | refine blk_alloc ?_ _)); exact BK141.out)⟩; have n2_ : Aside0 (Below w.heap.size w w17) := ⟨by rw [← hq_]; exact (by repeat (first | (with_reducible first | exact HB.out | apply below_alloc | apply pw_below_drewN | apply below_drew1 | refine below_set ?_ GE141.out) | exact HB.out))⟩; clear HO145 BK141 HB hq_; have HO145 := n0_; have BK141 := n1_; have HB := n2_; clear n0_ n1_ n2_))
            have n0_ := Aside0.mk (Kd.R_drew HO145.out)
            have n1_ := Aside0.mk (blk_drew BK141.out)
            have n2_ := Aside0.mk (below_drew1 HB.out)
            clear HO145
            clear BK141
            clear HB
            have HO145 := n0_
            have BK141 := n1_
            have HB := n2_
            clear n0_ n1_ n2_
            have q20 : (t146 : Int) ≤ ((t143.length : Int) : Int) := of_decide_eq_true (by first | (with_reducible assumption) | assumption)
            obtain ⟨i020, hi020, _, hsz20, _⟩ := info_parts info36
            have hroom20 : t143.length ≤ co18 := (Kd.R_reads' HO145.out).2.1
            have hC20 : Kd.C k36 _ Ao18 t143.length t143 := (Kd.R_reads' HO145.out).2.2
            have hcut20 := cut_to (P := Try.prog) 22 36 .i64 Try.underlying22 hi020 Ao18 t143.length co18 t146 (of_decide_eq_true (by first | (with_reducible assumption) | assumption)) q20 hroom20
            have hr20 := Kd.C_take (m := (t146 : Int).toNat) hC20 (by omega)
            have hy20 : y147.length = (t146 : Int).toNat := (by rw [Ny147.out, List.length_take]; omega)
            rw [← Ny147.out] at hr20
            rw [← hy20] at hcut20
            have HR150 := Aside0.mk hr20
            have HC150 := Aside0.mk (show y147.length ≤ co18 from by omega)
            clear hr20 hC20 hroom20 hi020 hsz20
            have KY20 := Aside0.mk hy20
            clear hy20
            have KL20 := Aside0.mk (show (t146 : Int).toNat ≤ t143.length from by omega)
            replace q20 := eq_true q20
            have q21 : (t146 : Int) ≤ ((t143.length : Int) : Int) := of_decide_eq_true (by first | (with_reducible assumption) | assumption)
            obtain ⟨i021, hi021, _, hsz21, _⟩ := info_parts info36
            have hroom21 : t143.length ≤ co18 := (Kd.R_reads' HO145.out).2.1
            have hC21 : Kd.C k36 _ Ao18 t143.length t143 := (Kd.R_reads' HO145.out).2.2
            have q021 : (0 : Int) ≤ (t146 : Int) := of_decide_eq_true (by first | (with_reducible assumption) | assumption)
            have hcut21 := cut_from (P := Try.prog) 22 36 .i64 Try.underlying22 hi021 4 hsz21 Ao18 t143.length co18 t146 q021 q21
            have hr21 := Kd.C_drop (m := (t146 : Int).toNat) (c := co18) hC21 (by omega) hroom21
            obtain ⟨A21, hA21⟩ : ∃ A1, A1 = (if co18 = (t146 : Int).toNat then Ao18 else (Ao18 : Option Addr).map (·.add ((t146 : Int).toNat * 4))) := ⟨_, rfl⟩
            obtain ⟨c21, hc21⟩ : ∃ c1, c1 = co18 - (t146 : Int).toNat := ⟨_, rfl⟩
            have hy21 : y160.length = t143.length - (t146 : Int).toNat := (by rw [Ny160.out, List.length_drop] <;> omega)
            rw [show (t143).drop (t146 : Int).toNat = y160 from Ny160.out.symm] at hr21
            replace hr21 : Kd.C k36 _ A21 y160.length y160 := (by rw [hA21]; exact hr21)
            rw [← hy21, ← hA21, ← hc21] at hcut21
            have HR163 := Aside0.mk hr21
            have HC163 := Aside0.mk (show y160.length ≤ c21 from by rw [hy21, hc21]; exact Nat.sub_le_sub_right hroom21 _)
            clear hr21 hC21 hroom21 hi021 hsz21 hc21
            have KY21 := Aside0.mk hy21
            have KA21 := Aside0.mk hA21
            clear hy21 hA21
            have KL21 := Aside0.mk (show (t146 : Int).toNat ≤ t143.length from by omega)
            replace q21 := eq_true q21
            refine start_ (n := 12) (S := fun w' => w'.cell? ⟨gb141, 0, none⟩ = some (.int .i64 a3_0) ∧ w'.cell? ⟨gb141, 1, none⟩ = some (.int .i64 a3_1) ∧ w'.cell? ⟨gb141, 2, none⟩ = some (.int .i64 a3_2) ∧ w'.cell? ⟨gb141, 3, none⟩ = some (.bool a3_3)) (ds := []) #[false, false, false, false, false, false, false, false, false, false, false, false] (by kernel_rfl) rfl rfl ⟨(blk_cell BK141.out 0).trans rfl, (blk_cell BK141.out 1).trans rfl, (blk_cell BK141.out 2).trans rfl, (blk_cell BK141.out 3).trans rfl⟩ (fun hHeld => ?_); refine with_tabW partitalaw11_TempoCheck.tab4 partitalaw11_TempoCheck.bits4 (fun HT_ HW_ => ?_)
            generalize w17.drew = w19 at HO145 BK141 HB HR150 HR163 hHeld ⊢
            refine pure_ (i := 0) (N := some 28) (v := ?_) (a' := ?_) #[true, false, false, false, false, false, false, false, false, false, false, false] rfl rfl (any_of HT_.out (by kernel_rfl)) (fun _ _ _ h => h) (Or.inl ⟨by rfl, ?_⟩) ?_ ?_
            rotate_left
            · intro w'
              go_simp
              with_reducible rfl
            rotate_left
            · simp only [Act.put, List.setIfInBounds_toArray, List.set_cons_zero, List.set_cons_succ, i64_w, i32_w]
              rfl
            refine pure_ (i := 1) (N := some 29) (v := ?_) (a' := ?_) #[true, true, false, false, false, false, false, false, false, false, false, false] rfl rfl (any_of HT_.out (by kernel_rfl)) (fun _ _ _ h => h) (Or.inl ⟨by rfl, ?_⟩) ?_ ?_
            rotate_left
            · intro w'
              go_simp
              with_reducible rfl
            rotate_left
            · simp only [Act.put, List.setIfInBounds_toArray, List.set_cons_zero, List.set_cons_succ, i64_w, i32_w]
              rfl
            refine pure_ (i := 2) (N := some 30) (v := ?_) (a' := ?_) #[true, true, true, false, false, false, false, false, false, false, false, false] rfl rfl (any_of HT_.out (by kernel_rfl)) (fun _ _ _ h => h) (Or.inl ⟨by rfl, ?_⟩) ?_ ?_
            rotate_left
            · intro w'
              go_simp
              with_reducible rfl
            rotate_left
            · simp only [Act.put, List.setIfInBounds_toArray, List.set_cons_zero, List.set_cons_succ, i64_w, i32_w]
              rfl
            refine pure_ (i := 7) (N := some 35) (v := ?_) (a' := ?_) #[true, true, true, false, false, false, false, true, false, false, false, false] rfl rfl (any_of HT_.out (by kernel_rfl)) (fun _ _ _ h => h) (Or.inl ⟨by rfl, ?_⟩) ?_ ?_
            rotate_left
            · intro w'
              go_simp
              with_reducible rfl
            rotate_left
            · simp only [Act.put, List.setIfInBounds_toArray, List.set_cons_zero, List.set_cons_succ, i64_w, i32_w]
              rfl
            refine pure_ (i := 8) (N := some 36) (v := ?_) (a' := ?_) #[true, true, true, false, false, false, false, true, true, false, false, false] rfl rfl (any_of HT_.out (by kernel_rfl)) (fun _ _ _ h => h) (Or.inl ⟨by rfl, ?_⟩) ?_ ?_
            rotate_left
            · intro w'
              go_simp
              with_reducible rfl
            rotate_left
            · simp only [Act.put, List.setIfInBounds_toArray, List.set_cons_zero, List.set_cons_succ, i64_w, i32_w]
              rfl
            refine pure_ (i := 9) (N := some 37) (v := ?_) (a' := ?_) #[true, true, true, false, false, false, false, true, true, true, false, false] rfl rfl (any_of HT_.out (by kernel_rfl)) (fun _ _ _ h => h) (Or.inl ⟨by rfl, ?_⟩) ?_ ?_
            rotate_left
            · intro w'
              go_simp
              with_reducible rfl
            rotate_left
            · simp only [Act.put, List.setIfInBounds_toArray, List.set_cons_zero, List.set_cons_succ, i64_w, i32_w]
              rfl
            refine take_ (i := 4) (N := some 32) (v := ?_) (a' := ?_) #[true, true, true, false, true, false, false, true, true, true, false, false] rfl rfl (take_ofW HT_.out HW_.out (by kernel_rfl)) (fun _ _ _ h => h) (Or.inl ⟨by rfl, ?_⟩) hHeld ?_ ?_
            rotate_left
            · rintro w' ⟨s0, s1, s2, s3⟩
              go_simp
              with_reducible rfl
            rotate_left
            · simp only [Act.put, List.setIfInBounds_toArray, List.set_cons_zero, List.set_cons_succ, i64_w, i32_w]
              rfl
            refine join_ (σ := Value × Value) 3 #[true, true, true, true, true, true, false, true, true, true, false, false] (fun s_ => [(31, s_.1), (33, s_.2)]) (fun s_ w' => (w'.cell? ⟨gb141, 0, none⟩ = some (.int .i64 a3_0) ∧ w'.cell? ⟨gb141, 1, none⟩ = some (.int .i64 a3_1) ∧ w'.cell? ⟨gb141, 2, none⟩ = some (.int .i64 a3_2) ∧ w'.cell? ⟨gb141, 3, none⟩ = some (.bool a3_3)) ∧ (Kd.R k36 36 w' w.heap.size (fun k_ => some k_ ≠ (s_.1 : Value).ownBlock ∧ some k_ ≠ (s_.2 : Value).ownBlock ∧ k_ ≠ gb141) (.slice Ao18 t143.length co18) t143) ∧ (Kd.R k36 36 w' w.heap.size (fun k_ => some k_ ≠ (.slice Ao18 t143.length co18 : Value).ownBlock ∧ some k_ ≠ (s_.2 : Value).ownBlock ∧ k_ ≠ gb141) s_.1 y151) ∧ (Kd.R k36 36 w' w.heap.size (fun k_ => some k_ ≠ (.slice Ao18 t143.length co18 : Value).ownBlock ∧ some k_ ≠ (s_.1 : Value).ownBlock ∧ k_ ≠ gb141) s_.2 y154) ∧ (w'.heap[gb141]? = some (.cells #[.int .i64 a3_0, .int .i64 a3_1, .int .i64 a3_2, .bool a3_3] 36 (0, 0))) ∧ (Below w.heap.size w w')) ?_ ?_
            rotate_left
            · intro hCont
              refine two_ (i := 3) (j := 5) (Ni := some 31) (Nj := some 33) #[true, true, true, true, true, false, false, true, true, true, false, false] #[true, true, true, false, true, true, false, true, true, true, false, false] rfl rfl rfl rfl (two_of HT_.out (by kernel_rfl)) (by decide) (by decide) (fun K hK => ?_) (fun K hK => ?_)
              · skip
                refine Kd.R_append_rows_step k36 (w0 := w) w.heap.size (by rfl) (.const (.slice none 0 0)) (.tmp 30) 22 36 (.agg #[(.int .i64 0), (.int .i64 0), (.int .i64 0), (.bool false)]) 32 rfl Try.underlying22 info36 rfl (by decide) (by omega) (.slice none 0 0) ([] : List (S36)) y147 _ _ _ (fun k_ => some k_ ≠ (.slice Ao18 t143.length co18 : Value).ownBlock ∧ k_ ≠ gb141) (fun _ => False) rfl rfl ?aO ?aR (fun _ _ h => h) (fun _ h => h.elim) ?aF ?aB ?aS ?aL ?_
                (case aR => repeat (first | exact (by repeat (first | (with_reducible exact HR150.out) | (with_reducible refine Kd.C_alloc ?_ _) | (with_reducible refine Kd.C_drewN ?_ _) | (with_reducible refine Kd.C_drew ?_) | exact HR150.out)) | (with_reducible refine Kd.C_alloc ?_ _) | (with_reducible refine Kd.C_drewN ?_ _) | (with_reducible refine Kd.C_drew ?_)))
                (case aB => exact (by repeat (first | (with_reducible first | exact HB.out | apply below_alloc | apply pw_below_drewN | apply below_drew1 | refine below_set ?_ GE141.out) | exact HB.out)))
                (case aF => exact (fun k_ hk => ⟨Kd.fresh' (Kd.R_lt (by (with_reducible repeat (first | apply Kd.R_alloc | apply Kd.R_drewN | apply Kd.R_drew)); exact HO145.out)) k_ hk, Kd.freshB (g := gb141) (o := .cells #[.int .i64 a3_0, .int .i64 a3_1, .int .i64 a3_2, .bool a3_3] 36 (0, 0)) (by (with_reducible repeat (first | refine blk_drewN ?_ _ | refine blk_drew ?_ | refine blk_alloc ?_ _)); exact BK141.out) k_ hk⟩))
                (case aO => exact ((Kd.R_nil _ _ _ _ (fun k_ => some k_ ≠ (.slice Ao18 t143.length co18 : Value).ownBlock ∧ k_ ≠ gb141))))
                (case aS => exact (below_size (by repeat (first | (with_reducible first | exact HB.out | apply below_alloc | apply pw_below_drewN | apply below_drew1 | refine below_set ?_ GE141.out) | exact HB.out))))
                (case aL => have := LMc10.out; omega)
                intro v152 w22 ho hb hg hat
                rw [← Ny151.out] at ho
                have n0_ := Aside0.mk (blk_grown (g := gb141) (o := .cells #[.int .i64 a3_0, .int .i64 a3_1, .int .i64 a3_2, .bool a3_3] 36 (0, 0)) (by (with_reducible repeat (first | refine blk_drewN ?_ _ | refine blk_drew ?_ | refine blk_alloc ?_ _)); exact BK141.out) hg (by simp [Value.ownBlock]))
                have n1_ := Aside0.mk (Kd.R_after (Kd.R_apart_nil (by (with_reducible repeat (first | apply Kd.R_alloc | apply Kd.R_drewN | apply Kd.R_drew)); exact HO145.out)) hg hat)
                have n2_ := Aside0.mk (hb)
                have n3_ := Aside0.mk ((show Kd.C k36 w22 Ao18 y147.length y147 from by rw [Ny147.out]; exact Kd.C_take (m := (t146 : Int).toNat) ((Kd.R_reads' (Kd.R_after (Kd.R_apart_nil (by (with_reducible repeat (first | apply Kd.R_alloc | apply Kd.R_drewN | apply Kd.R_drew)); exact HO145.out)) hg hat)).2.2) KL20.out))
                have n4_ := Aside0.mk ((show Kd.C k36 w22 A21 y160.length y160 from by rw [Ny160.out, KA21.out]; exact Kd.C_drop (m := (t146 : Int).toNat) (c := co18) ((Kd.R_reads' (Kd.R_after (Kd.R_apart_nil (by (with_reducible repeat (first | apply Kd.R_alloc | apply Kd.R_drewN | apply Kd.R_drew)); exact HO145.out)) hg hat)).2.2) KL21.out ((Kd.R_reads' (Kd.R_after (Kd.R_apart_nil (by (with_reducible repeat (first | apply Kd.R_alloc | apply Kd.R_drewN | apply Kd.R_drew)); exact HO145.out)) hg hat)).2.1)))
                have n5_ := Aside0.mk (ho)
                clear BK141
                clear HO145
                clear HB
                clear HR150
                clear HR163
                have BK141 := n0_
                have HO145 := n1_
                have HB := n2_
                have HR150 := n3_
                have HR163 := n4_
                have HO153 := n5_
                clear n0_ n1_ n2_ n3_ n4_ n5_
                clear ho hb hg hat
                refine hK.out _ _ ⟨(blk_cell BK141.out 0).trans rfl, (blk_cell BK141.out 1).trans rfl, (blk_cell BK141.out 2).trans rfl, (blk_cell BK141.out 3).trans rfl⟩ (fun hHeld => ?_)
                clear hK K
                refine norm_ (a' := ?_) ?_ ?_
                rotate_left
                · show Act.put _ (some 31) _ = _
                  simp only [Act.put, List.setIfInBounds_toArray, List.set_cons_zero, List.set_cons_succ, i64_w, i32_w]
                  rfl
                refine one_ (i := 5) (N := some 33) #[true, true, true, true, true, true, false, true, true, true, false, false] rfl rfl (one_of HT_.out (by kernel_rfl)) (by decide) (fun K hK => ?_)
                refine Kd.R_lit_step k36 _ 36 ?hg (N := 33) ?hd (xs := ([(⟨(⟨a3_0, a3_1⟩ : S27), a3_2, a3_3⟩ : S36)] : List (S36))) (inner := [.int .i64 a3_0, .int .i64 a3_1, .int .i64 a3_2, .bool a3_3]) (ok := fun _ => True) (okp := fun _ => True) ?hr ?hp (fun _ hk => hk) trivial (Below.refl _ _) (Nat.le_refl _) (by simp) ?_; (case hd => rfl); (case hg => rfl); (case hr => first | (go_simp; done) | (go_simp; rfl)); (case hp => exact (Reps.c4 (show Kd.M k36 _ _ _ (⟨(⟨a3_0, a3_1⟩ : S27), a3_2, a3_3⟩ : S36) [.int .i64 a3_0, .int .i64 a3_1, .int .i64 a3_2, .bool a3_3] from (k36_mkM _ _ _ (⟨(⟨a3_0, a3_1⟩ : S27), a3_2, a3_3⟩ : S36) )) (Reps.none _ _)))
                intro v155 w23 ho24 hb hg_ hnew_
                clear hg_ hnew_
                (first | rw [← Ny154.out] at ho24 | (simp only [Int.reduceToNat] at ho24; rw [← Ny154.out] at ho24))
                have n0_ := Aside0.mk (Kd.R_elder' (by (with_reducible repeat (first | apply Kd.R_alloc | apply Kd.R_drewN | apply Kd.R_drew)); exact HO145.out) (Kd.R_base ho24) hb)
                have n1_ := Aside0.mk (Kd.R_elder' (by (with_reducible repeat (first | apply Kd.R_alloc | apply Kd.R_drewN | apply Kd.R_drew)); exact HO153.out) (Kd.R_base ho24) hb)
                have n2_ := Aside0.mk (Kd.R_lower (Kd.R_newB (Kd.R_new' (Kd.R_new' ho24 (Kd.R_lt (by (with_reducible repeat (first | apply Kd.R_alloc | apply Kd.R_drewN | apply Kd.R_drew)); exact HO145.out))) (Kd.R_lt (by (with_reducible repeat (first | apply Kd.R_alloc | apply Kd.R_drewN | apply Kd.R_drew)); exact HO153.out))) (g := gb141) (o := .cells #[.int .i64 a3_0, .int .i64 a3_1, .int .i64 a3_2, .bool a3_3] 36 (0, 0)) (by (with_reducible repeat (first | refine blk_drewN ?_ _ | refine blk_drew ?_ | refine blk_alloc ?_ _)); exact BK141.out)) (below_size (by repeat (first | (with_reducible first | exact HB.out | apply below_alloc | apply pw_below_drewN | apply below_drew1 | refine below_set ?_ GE141.out) | exact HB.out))))
                have n3_ := Aside0.mk (blk_below (g := gb141) (o := .cells #[.int .i64 a3_0, .int .i64 a3_1, .int .i64 a3_2, .bool a3_3] 36 (0, 0)) (by (with_reducible repeat (first | refine blk_drewN ?_ _ | refine blk_drew ?_ | refine blk_alloc ?_ _)); exact BK141.out) hb)
                have n4_ := Aside0.mk (Kd.C_below (by repeat (first | (with_reducible exact HR150.out) | (with_reducible refine Kd.C_alloc ?_ _) | (with_reducible refine Kd.C_drewN ?_ _) | (with_reducible refine Kd.C_drew ?_) | exact HR150.out)) hb)
                have n5_ := Aside0.mk (Kd.C_below (by repeat (first | (with_reducible exact HR163.out) | (with_reducible refine Kd.C_alloc ?_ _) | (with_reducible refine Kd.C_drewN ?_ _) | (with_reducible refine Kd.C_drew ?_) | exact HR163.out)) hb)
                have n6_ := Aside0.mk (below_step (by repeat (first | (with_reducible first | exact HB.out | apply below_alloc | apply pw_below_drewN | apply below_drew1 | refine below_set ?_ GE141.out) | exact HB.out)) hb)
                clear HO145
                clear HO153
                clear BK141
                clear HR150
                clear HR163
                clear HB
                have HO145 := n0_
                have HO153 := n1_
                have HO156 := n2_
                have BK141 := n3_
                have HR150 := n4_
                have HR163 := n5_
                have HB := n6_
                clear n0_ n1_ n2_ n3_ n4_ n5_ n6_
                clear hb ho24
                refine hK.out _ _ ⟨(blk_cell BK141.out 0).trans rfl, (blk_cell BK141.out 1).trans rfl, (blk_cell BK141.out 2).trans rfl, (blk_cell BK141.out 3).trans rfl⟩ (fun hHeld => ?_)
                clear hK K
                refine norm_ (a' := ?_) ?_ ?_
                rotate_left
                · show Act.put _ (some 33) _ = _
                  simp only [Act.put, List.setIfInBounds_toArray, List.set_cons_zero, List.set_cons_succ, i64_w, i32_w]
                  rfl
                exact norm_ (by simp only [putAll, Act.put, List.setIfInBounds_toArray, List.set_cons_zero, List.set_cons_succ]) (hCont (v152, v155) _ ⟨hHeld, (by (with_reducible repeat (first | apply Kd.R_alloc | apply Kd.R_drewN | apply Kd.R_drew)); exact Kd.R_mono HO145.out (fun _ hk => ⟨hk.1.2, ⟨hk.2, hk.1.1.2⟩⟩)), (by (with_reducible repeat (first | apply Kd.R_alloc | apply Kd.R_drewN | apply Kd.R_drew)); exact Kd.R_mono HO153.out (fun _ hk => ⟨hk.1.1, ⟨hk.2, hk.1.2⟩⟩)), (by (with_reducible repeat (first | apply Kd.R_alloc | apply Kd.R_drewN | apply Kd.R_drew)); exact Kd.R_mono HO156.out (fun _ hk => ⟨hk.1.1.2, ⟨hk.1.2, hk.2⟩⟩)), (by (with_reducible repeat (first | refine blk_drewN ?_ _ | refine blk_drew ?_ | refine blk_alloc ?_ _)); exact BK141.out), (by repeat (first | (with_reducible first | exact HB.out | apply below_alloc | apply pw_below_drewN | apply below_drew1 | refine below_set ?_ GE141.out) | exact HB.out))⟩)
              · skip
                refine Kd.R_lit_step k36 _ 36 ?hg (N := 33) ?hd (xs := ([(⟨(⟨a3_0, a3_1⟩ : S27), a3_2, a3_3⟩ : S36)] : List (S36))) (inner := [.int .i64 a3_0, .int .i64 a3_1, .int .i64 a3_2, .bool a3_3]) (ok := fun _ => True) (okp := fun _ => True) ?hr ?hp (fun _ hk => hk) trivial (Below.refl _ _) (Nat.le_refl _) (by simp) ?_; (case hd => rfl); (case hg => rfl); (case hr => first | (go_simp; done) | (go_simp; rfl)); (case hp => exact (Reps.c4 (show Kd.M k36 _ _ _ (⟨(⟨a3_0, a3_1⟩ : S27), a3_2, a3_3⟩ : S36) [.int .i64 a3_0, .int .i64 a3_1, .int .i64 a3_2, .bool a3_3] from (k36_mkM _ _ _ (⟨(⟨a3_0, a3_1⟩ : S27), a3_2, a3_3⟩ : S36) )) (Reps.none _ _)))
                intro v155 w22 ho23 hb hg_ hnew_
                clear hg_ hnew_
                (first | rw [← Ny154.out] at ho23 | (simp only [Int.reduceToNat] at ho23; rw [← Ny154.out] at ho23))
                have n0_ := Aside0.mk (Kd.R_elder' (by (with_reducible repeat (first | apply Kd.R_alloc | apply Kd.R_drewN | apply Kd.R_drew)); exact HO145.out) (Kd.R_base ho23) hb)
                have n1_ := Aside0.mk (Kd.R_lower (Kd.R_newB (Kd.R_new' ho23 (Kd.R_lt (by (with_reducible repeat (first | apply Kd.R_alloc | apply Kd.R_drewN | apply Kd.R_drew)); exact HO145.out))) (g := gb141) (o := .cells #[.int .i64 a3_0, .int .i64 a3_1, .int .i64 a3_2, .bool a3_3] 36 (0, 0)) (by (with_reducible repeat (first | refine blk_drewN ?_ _ | refine blk_drew ?_ | refine blk_alloc ?_ _)); exact BK141.out)) (below_size (by repeat (first | (with_reducible first | exact HB.out | apply below_alloc | apply pw_below_drewN | apply below_drew1 | refine below_set ?_ GE141.out) | exact HB.out))))
                have n2_ := Aside0.mk (blk_below (g := gb141) (o := .cells #[.int .i64 a3_0, .int .i64 a3_1, .int .i64 a3_2, .bool a3_3] 36 (0, 0)) (by (with_reducible repeat (first | refine blk_drewN ?_ _ | refine blk_drew ?_ | refine blk_alloc ?_ _)); exact BK141.out) hb)
                have n3_ := Aside0.mk (Kd.C_below (by repeat (first | (with_reducible exact HR150.out) | (with_reducible refine Kd.C_alloc ?_ _) | (with_reducible refine Kd.C_drewN ?_ _) | (with_reducible refine Kd.C_drew ?_) | exact HR150.out)) hb)
                have n4_ := Aside0.mk (Kd.C_below (by repeat (first | (with_reducible exact HR163.out) | (with_reducible refine Kd.C_alloc ?_ _) | (with_reducible refine Kd.C_drewN ?_ _) | (with_reducible refine Kd.C_drew ?_) | exact HR163.out)) hb)
                have n5_ := Aside0.mk (below_step (by repeat (first | (with_reducible first | exact HB.out | apply below_alloc | apply pw_below_drewN | apply below_drew1 | refine below_set ?_ GE141.out) | exact HB.out)) hb)
                clear HO145
                clear BK141
                clear HR150
                clear HR163
                clear HB
                have HO145 := n0_
                have HO156 := n1_
                have BK141 := n2_
                have HR150 := n3_
                have HR163 := n4_
                have HB := n5_
                clear n0_ n1_ n2_ n3_ n4_ n5_
                clear hb ho23
                refine hK.out _ _ ⟨(blk_cell BK141.out 0).trans rfl, (blk_cell BK141.out 1).trans rfl, (blk_cell BK141.out 2).trans rfl, (blk_cell BK141.out 3).trans rfl⟩ (fun hHeld => ?_)
                clear hK K
                refine norm_ (a' := ?_) ?_ ?_
                rotate_left
                · show Act.put _ (some 33) _ = _
                  simp only [Act.put, List.setIfInBounds_toArray, List.set_cons_zero, List.set_cons_succ, i64_w, i32_w]
                  rfl
                refine one_ (i := 3) (N := some 31) #[true, true, true, true, true, true, false, true, true, true, false, false] rfl rfl (one_of HT_.out (by kernel_rfl)) (by decide) (fun K hK => ?_)
                refine Kd.R_append_rows_step k36 (w0 := w) w.heap.size (by rfl) (.const (.slice none 0 0)) (.tmp 30) 22 36 (.agg #[(.int .i64 0), (.int .i64 0), (.int .i64 0), (.bool false)]) 32 rfl Try.underlying22 info36 rfl (by decide) (by omega) (.slice none 0 0) ([] : List (S36)) y147 _ _ _ (fun k_ => some k_ ≠ (.slice Ao18 t143.length co18 : Value).ownBlock ∧ some k_ ≠ (v155 : Value).ownBlock ∧ k_ ≠ gb141) (fun _ => False) rfl rfl ?aO ?aR (fun _ _ h => h) (fun _ h => h.elim) ?aF ?aB ?aS ?aL ?_
                (case aR => repeat (first | exact (by repeat (first | (with_reducible exact HR150.out) | (with_reducible refine Kd.C_alloc ?_ _) | (with_reducible refine Kd.C_drewN ?_ _) | (with_reducible refine Kd.C_drew ?_) | exact HR150.out)) | (with_reducible refine Kd.C_alloc ?_ _) | (with_reducible refine Kd.C_drewN ?_ _) | (with_reducible refine Kd.C_drew ?_)))
                (case aB => exact (by repeat (first | (with_reducible first | exact HB.out | apply below_alloc | apply pw_below_drewN | apply below_drew1 | refine below_set ?_ GE141.out) | exact HB.out)))
                (case aF => exact (fun k_ hk => ⟨Kd.fresh' (Kd.R_lt (by (with_reducible repeat (first | apply Kd.R_alloc | apply Kd.R_drewN | apply Kd.R_drew)); exact HO145.out)) k_ hk, Kd.fresh' (Kd.R_lt (by (with_reducible repeat (first | apply Kd.R_alloc | apply Kd.R_drewN | apply Kd.R_drew)); exact HO156.out)) k_ hk, Kd.freshB (g := gb141) (o := .cells #[.int .i64 a3_0, .int .i64 a3_1, .int .i64 a3_2, .bool a3_3] 36 (0, 0)) (by (with_reducible repeat (first | refine blk_drewN ?_ _ | refine blk_drew ?_ | refine blk_alloc ?_ _)); exact BK141.out) k_ hk⟩))
                (case aO => exact ((Kd.R_nil _ _ _ _ (fun k_ => some k_ ≠ (.slice Ao18 t143.length co18 : Value).ownBlock ∧ some k_ ≠ (v155 : Value).ownBlock ∧ k_ ≠ gb141))))
                (case aS => exact (below_size (by repeat (first | (with_reducible first | exact HB.out | apply below_alloc | apply pw_below_drewN | apply below_drew1 | refine below_set ?_ GE141.out) | exact HB.out))))
                (case aL => have := LMc10.out; omega)
                intro v152 w24 ho hb hg hat
                rw [← Ny151.out] at ho
                have n0_ := Aside0.mk (blk_grown (g := gb141) (o := .cells #[.int .i64 a3_0, .int .i64 a3_1, .int .i64 a3_2, .bool a3_3] 36 (0, 0)) (by (with_reducible repeat (first | refine blk_drewN ?_ _ | refine blk_drew ?_ | refine blk_alloc ?_ _)); exact BK141.out) hg (by simp [Value.ownBlock]))
                have n1_ := Aside0.mk (Kd.R_after (Kd.R_apart_nil (by (with_reducible repeat (first | apply Kd.R_alloc | apply Kd.R_drewN | apply Kd.R_drew)); exact HO145.out)) hg hat)
                have n2_ := Aside0.mk (Kd.R_after (Kd.R_apart_nil (by (with_reducible repeat (first | apply Kd.R_alloc | apply Kd.R_drewN | apply Kd.R_drew)); exact HO156.out)) hg hat)
                have n3_ := Aside0.mk (hb)
                have n4_ := Aside0.mk ((show Kd.C k36 w24 Ao18 y147.length y147 from by rw [Ny147.out]; exact Kd.C_take (m := (t146 : Int).toNat) ((Kd.R_reads' (Kd.R_after (Kd.R_apart_nil (by (with_reducible repeat (first | apply Kd.R_alloc | apply Kd.R_drewN | apply Kd.R_drew)); exact HO145.out)) hg hat)).2.2) KL20.out))
                have n5_ := Aside0.mk ((show Kd.C k36 w24 A21 y160.length y160 from by rw [Ny160.out, KA21.out]; exact Kd.C_drop (m := (t146 : Int).toNat) (c := co18) ((Kd.R_reads' (Kd.R_after (Kd.R_apart_nil (by (with_reducible repeat (first | apply Kd.R_alloc | apply Kd.R_drewN | apply Kd.R_drew)); exact HO145.out)) hg hat)).2.2) KL21.out ((Kd.R_reads' (Kd.R_after (Kd.R_apart_nil (by (with_reducible repeat (first | apply Kd.R_alloc | apply Kd.R_drewN | apply Kd.R_drew)); exact HO145.out)) hg hat)).2.1)))
                have n6_ := Aside0.mk (ho)
                clear BK141
                clear HO145
                clear HO156
                clear HB
                clear HR150
                clear HR163
                have BK141 := n0_
                have HO145 := n1_
                have HO156 := n2_
                have HB := n3_
                have HR150 := n4_
                have HR163 := n5_
                have HO153 := n6_
                clear n0_ n1_ n2_ n3_ n4_ n5_ n6_
                clear ho hb hg hat
                refine hK.out _ _ ⟨(blk_cell BK141.out 0).trans rfl, (blk_cell BK141.out 1).trans rfl, (blk_cell BK141.out 2).trans rfl, (blk_cell BK141.out 3).trans rfl⟩ (fun hHeld => ?_)
                clear hK K
                refine norm_ (a' := ?_) ?_ ?_
                rotate_left
                · show Act.put _ (some 31) _ = _
                  simp only [Act.put, List.setIfInBounds_toArray, List.set_cons_zero, List.set_cons_succ, i64_w, i32_w]
                  rfl
                exact norm_ (by simp only [putAll, Act.put, List.setIfInBounds_toArray, List.set_cons_zero, List.set_cons_succ]) (hCont (v152, v155) _ ⟨hHeld, (by (with_reducible repeat (first | apply Kd.R_alloc | apply Kd.R_drewN | apply Kd.R_drew)); exact Kd.R_mono HO145.out (fun _ hk => ⟨hk.2, ⟨hk.1.2, hk.1.1.2⟩⟩)), (by (with_reducible repeat (first | apply Kd.R_alloc | apply Kd.R_drewN | apply Kd.R_drew)); exact HO153.out), (by (with_reducible repeat (first | apply Kd.R_alloc | apply Kd.R_drewN | apply Kd.R_drew)); exact Kd.R_mono HO156.out (fun _ hk => ⟨hk.1.1.2, ⟨hk.2, hk.1.2⟩⟩)), (by (with_reducible repeat (first | refine blk_drewN ?_ _ | refine blk_drew ?_ | refine blk_alloc ?_ _)); exact BK141.out), (by repeat (first | (with_reducible first | exact HB.out | apply below_alloc | apply pw_below_drewN | apply below_drew1 | refine below_set ?_ GE141.out) | exact HB.out))⟩)
            rintro ⟨v152, v155⟩ w25 ⟨hS_, h0_, h1_, h2_, h3_, h4_⟩
            have n0_ : Aside0 (Kd.R k36 36 w25 w.heap.size (fun k_ => some k_ ≠ (v152 : Value).ownBlock ∧ some k_ ≠ (v155 : Value).ownBlock ∧ k_ ≠ gb141) (.slice Ao18 t143.length co18) t143) := ⟨h0_⟩
            have n1_ : Aside0 (Kd.R k36 36 w25 w.heap.size (fun k_ => some k_ ≠ (.slice Ao18 t143.length co18 : Value).ownBlock ∧ some k_ ≠ (v155 : Value).ownBlock ∧ k_ ≠ gb141) v152 y151) := ⟨h1_⟩
            have n2_ : Aside0 (Kd.R k36 36 w25 w.heap.size (fun k_ => some k_ ≠ (.slice Ao18 t143.length co18 : Value).ownBlock ∧ some k_ ≠ (v152 : Value).ownBlock ∧ k_ ≠ gb141) v155 y154) := ⟨h2_⟩
            have n3_ : Aside0 (w25.heap[gb141]? = some (.cells #[.int .i64 a3_0, .int .i64 a3_1, .int .i64 a3_2, .bool a3_3] 36 (0, 0))) := ⟨h3_⟩
            have n4_ : Aside0 (Below w.heap.size w w25) := ⟨h4_⟩
            clear HO145
            clear BK141
            clear HB
            clear h0_ h1_ h2_ h3_ h4_
            have HO145 := n0_
            have HO153 := n1_
            have HO156 := n2_
            have BK141 := n3_
            have HB := n4_
            clear n0_ n1_ n2_ n3_ n4_
            have hHeld : w25.cell? ⟨gb141, 0, none⟩ = some (.int .i64 a3_0) ∧ w25.cell? ⟨gb141, 1, none⟩ = some (.int .i64 a3_1) ∧ w25.cell? ⟨gb141, 2, none⟩ = some (.int .i64 a3_2) ∧ w25.cell? ⟨gb141, 3, none⟩ = some (.bool a3_3) := hS_
            obtain ⟨Ao27, co27, eo27⟩ := Kd.R_slice HO156.out
            (first | subst eo27 | (injection eo27 with f1_ f2_ f3_; have f4_ := f1_.symm; have f5_ := f3_.symm; clear f1_ f2_ f3_; subst f4_; subst f5_))
            refine norm_ (a' := ?_) ?_ ?_
            rotate_left
            · simp only [putAll, Act.put, List.setIfInBounds_toArray, List.set_cons_zero, List.set_cons_succ]
              rfl
            refine one_ (i := 6) (N := some 34) #[true, true, true, true, true, true, true, true, true, true, false, false] rfl rfl (one_of HT_.out (by kernel_rfl)) (by decide) (fun K hK => ?_)
            refine Kd.R_append_rows_step k36 (w0 := w) w.heap.size (by rfl) (.tmp 31) (.tmp 33) 22 36 (.agg #[(.int .i64 0), (.int .i64 0), (.int .i64 0), (.bool false)]) 32 rfl Try.underlying22 info36 rfl (by decide) (by omega) v152 y151 y154 _ _ _ (fun k_ => some k_ ≠ (.slice Ao18 t143.length co18 : Value).ownBlock ∧ some k_ ≠ (.slice Ao27 y154.length co27 : Value).ownBlock ∧ k_ ≠ gb141) (fun _ => False) rfl rfl ?aO ?aR (fun _ _ h => h) (fun _ h => h.elim) ?aF ?aB ?aS ?aL ?_
            (case aR => repeat (first | exact (Kd.R_reads' HO156.out).2.2 | (with_reducible refine Kd.C_alloc ?_ _) | (with_reducible refine Kd.C_drewN ?_ _) | (with_reducible refine Kd.C_drew ?_)))
            (case aB => exact (by repeat (first | (with_reducible first | exact HB.out | apply below_alloc | apply pw_below_drewN | apply below_drew1 | refine below_set ?_ GE141.out) | exact HB.out)))
            (case aF => exact (fun k_ hk => ⟨Kd.fresh' (Kd.R_lt (by (with_reducible repeat (first | apply Kd.R_alloc | apply Kd.R_drewN | apply Kd.R_drew)); exact HO145.out)) k_ hk, Kd.fresh' (Kd.R_lt (by (with_reducible repeat (first | apply Kd.R_alloc | apply Kd.R_drewN | apply Kd.R_drew)); exact HO156.out)) k_ hk, Kd.freshB (g := gb141) (o := .cells #[.int .i64 a3_0, .int .i64 a3_1, .int .i64 a3_2, .bool a3_3] 36 (0, 0)) (by (with_reducible repeat (first | refine blk_drewN ?_ _ | refine blk_drew ?_ | refine blk_alloc ?_ _)); exact BK141.out) k_ hk⟩))
            (case aO => exact (by (with_reducible repeat (first | apply Kd.R_alloc | apply Kd.R_drewN | apply Kd.R_drew)); exact HO153.out))
            (case aS => exact (below_size (by repeat (first | (with_reducible first | exact HB.out | apply below_alloc | apply pw_below_drewN | apply below_drew1 | refine below_set ?_ GE141.out) | exact HB.out))))
            (case aL => have := LMc11.out; omega)
            intro v158 w26 ho hb hg hat
            rw [← Ny157.out] at ho
            have n0_ := Aside0.mk (blk_grown (g := gb141) (o := .cells #[.int .i64 a3_0, .int .i64 a3_1, .int .i64 a3_2, .bool a3_3] 36 (0, 0)) (by (with_reducible repeat (first | refine blk_drewN ?_ _ | refine blk_drew ?_ | refine blk_alloc ?_ _)); exact BK141.out) hg (Kd.R_away HO153.out (fun _ hk => hk.2.2)))
            have n1_ := Aside0.mk (Kd.R_after (ok := (fun k_ => some k_ ≠ (.slice Ao27 y154.length co27 : Value).ownBlock ∧ k_ ≠ gb141)) (by (with_reducible repeat (first | apply Kd.R_alloc | apply Kd.R_drewN | apply Kd.R_drew)); exact Kd.R_mono HO145.out (fun _ hk => ⟨⟨hk.2.1, hk.2.2⟩, hk.1⟩)) hg hat)
            have n2_ := Aside0.mk (Kd.R_after (ok := (fun k_ => some k_ ≠ (.slice Ao18 t143.length co18 : Value).ownBlock ∧ k_ ≠ gb141)) (by (with_reducible repeat (first | apply Kd.R_alloc | apply Kd.R_drewN | apply Kd.R_drew)); exact Kd.R_mono HO156.out (fun _ hk => ⟨⟨hk.1, hk.2.2⟩, hk.2.1⟩)) hg hat)
            have n3_ := Aside0.mk (hb)
            have n4_ := Aside0.mk (ho)
            clear BK141
            clear HO145
            clear HO156
            clear HB
            clear HO153
            have BK141 := n0_
            have HO145 := n1_
            have HO156 := n2_
            have HB := n3_
            have HO159 := n4_
            clear n0_ n1_ n2_ n3_ n4_
            clear ho hb hg hat
            refine hK.out _ _ ⟨(blk_cell BK141.out 0).trans rfl, (blk_cell BK141.out 1).trans rfl, (blk_cell BK141.out 2).trans rfl, (blk_cell BK141.out 3).trans rfl⟩ (fun hHeld => ?_)
            clear hK K
            refine norm_ (a' := ?_) ?_ ?_
            rotate_left
            · show Act.put _ (some 34) _ = _
              simp only [Act.put, List.setIfInBounds_toArray, List.set_cons_zero, List.set_cons_succ, i64_w, i32_w]
              rfl
            refine one_ (i := 10) (N := some 38) #[true, true, true, true, true, true, true, true, true, true, true, false] rfl rfl (one_of HT_.out (by kernel_rfl)) (by decide) (fun K hK => ?_)
            refine Kd.R_append_rows_step k36 (w0 := w) w.heap.size (by rfl) (.tmp 34) (.tmp 37) 22 36 (.agg #[(.int .i64 0), (.int .i64 0), (.int .i64 0), (.bool false)]) 32 rfl Try.underlying22 info36 rfl (by decide) (by omega) v158 y157 y160 _ _ _ (fun k_ => some k_ ≠ (.slice Ao18 t143.length co18 : Value).ownBlock ∧ some k_ ≠ (.slice Ao27 y154.length co27 : Value).ownBlock ∧ k_ ≠ gb141) (fun _ => False) rfl rfl ?aO ?aR (fun _ _ h => h) (fun _ h => h.elim) ?aF ?aB ?aS ?aL ?_
            (case aR => (have hz_ := Kd.C_drop (m := (t146 : Int).toNat) (c := co18) (Kd.R_reads' HO145.out).2.2 KL21.out (Kd.R_reads' HO145.out).2.1; rw [show (t143).drop (t146 : Int).toNat = y160 from Ny160.out.symm] at hz_; replace hz_ : Kd.C k36 _ A21 y160.length y160 := (by rw [KA21.out]; exact hz_); repeat (first | exact hz_ | (with_reducible refine Kd.C_alloc ?_ _) | (with_reducible refine Kd.C_drewN ?_ _) | (with_reducible refine Kd.C_drew ?_))))
            (case aB => exact (by repeat (first | (with_reducible first | exact HB.out | apply below_alloc | apply pw_below_drewN | apply below_drew1 | refine below_set ?_ GE141.out) | exact HB.out)))
            (case aF => exact (fun k_ hk => ⟨Kd.fresh' (Kd.R_lt (by (with_reducible repeat (first | apply Kd.R_alloc | apply Kd.R_drewN | apply Kd.R_drew)); exact HO145.out)) k_ hk, Kd.fresh' (Kd.R_lt (by (with_reducible repeat (first | apply Kd.R_alloc | apply Kd.R_drewN | apply Kd.R_drew)); exact HO156.out)) k_ hk, Kd.freshB (g := gb141) (o := .cells #[.int .i64 a3_0, .int .i64 a3_1, .int .i64 a3_2, .bool a3_3] 36 (0, 0)) (by (with_reducible repeat (first | refine blk_drewN ?_ _ | refine blk_drew ?_ | refine blk_alloc ?_ _)); exact BK141.out) k_ hk⟩))
            (case aO => exact (by (with_reducible repeat (first | apply Kd.R_alloc | apply Kd.R_drewN | apply Kd.R_drew)); exact HO159.out))
            (case aS => exact (below_size (by repeat (first | (with_reducible first | exact HB.out | apply below_alloc | apply pw_below_drewN | apply below_drew1 | refine below_set ?_ GE141.out) | exact HB.out))))
            (case aL => have := LMc14.out; omega)
            intro v165 w28 ho hb hg hat
            rw [← Ny164.out] at ho
            have n0_ := Aside0.mk (blk_grown (g := gb141) (o := .cells #[.int .i64 a3_0, .int .i64 a3_1, .int .i64 a3_2, .bool a3_3] 36 (0, 0)) (by (with_reducible repeat (first | refine blk_drewN ?_ _ | refine blk_drew ?_ | refine blk_alloc ?_ _)); exact BK141.out) hg (Kd.R_away HO159.out (fun _ hk => hk.2.2)))
            have n1_ := Aside0.mk (Kd.R_after (ok := (fun k_ => some k_ ≠ (.slice Ao27 y154.length co27 : Value).ownBlock ∧ k_ ≠ gb141)) (by (with_reducible repeat (first | apply Kd.R_alloc | apply Kd.R_drewN | apply Kd.R_drew)); exact HO145.out) hg hat)
            have n2_ := Aside0.mk (Kd.R_after (ok := (fun k_ => some k_ ≠ (.slice Ao18 t143.length co18 : Value).ownBlock ∧ k_ ≠ gb141)) (by (with_reducible repeat (first | apply Kd.R_alloc | apply Kd.R_drewN | apply Kd.R_drew)); exact HO156.out) hg hat)
            have n3_ := Aside0.mk (hb)
            have n4_ := Aside0.mk (ho)
            clear BK141
            clear HO145
            clear HO156
            clear HB
            clear HO159
            have BK141 := n0_
            have HO145 := n1_
            have HO156 := n2_
            have HB := n3_
            have HO166 := n4_
            clear n0_ n1_ n2_ n3_ n4_
            clear ho hb hg hat
            refine hK.out _ _ ⟨(blk_cell BK141.out 0).trans rfl, (blk_cell BK141.out 1).trans rfl, (blk_cell BK141.out 2).trans rfl, (blk_cell BK141.out 3).trans rfl⟩ (fun hHeld => ?_)
            clear hK K
            refine norm_ (a' := ?_) ?_ ?_
            rotate_left
            · show Act.put _ (some 38) _ = _
              simp only [Act.put, List.setIfInBounds_toArray, List.set_cons_zero, List.set_cons_succ, i64_w, i32_w]
              rfl
            refine pure_ (i := 11) (N := some 12) (v := ?_) (a' := ?_) #[true, true, true, true, true, true, true, true, true, true, true, true] rfl rfl (any_of HT_.out (by kernel_rfl)) (fun _ _ _ h => h) (Or.inl ⟨by rfl, ?_⟩) ?_ ?_
            rotate_left
            · intro w'
              go_simp
              with_reducible rfl
            rotate_left
            · simp only [Act.put, List.setIfInBounds_toArray, List.set_cons_zero, List.set_cons_succ, i64_w, i32_w]
              rfl
            refine done_ (done_of HT_.out (by kernel_rfl)) ?_
            obtain ⟨hgm, hgt⟩ := HGD.out _ _ A6.out A7.out
            have hy164 : goodB y164 = true := by rw [Ny164.out, Ny157.out, Ny151.out, Ny147.out, Ny154.out, Ny160.out, List.nil_append]; exact hgm
            clear hgm
            obtain ⟨Ao3, co3, eo3⟩ := Kd.R_slice HO166.out
            subst eo3
            obtain ⟨_, hc3, hC3⟩ := Kd.R_reads' HO166.out
            obtain ⟨_, hc2, hC2⟩ := Kd.R_reads' HO145.out
            have hC0 := Kd.C_below HR0.out HB.out
            have hc0 := HC0.out
            have hl64 := LMc14.out
            have h164 : y164.length = y157.length + y160.length := by rw [Ny164.out, List.length_append]
            have hm1 := KL20.out
            have hl0 := HG0.out.2
            have hg00 := HG0.out.1
            have hm4 : t143.length < 4398046511104 := by
              have e1 := KY21.out
              have e2 : y157.length = y151.length + y154.length := by rw [Ny157.out, List.length_append]
              have e3 : y151.length = y147.length := by rw [Ny151.out]; simp
              have e4 := KY20.out
              omega
            have h164b : y164.length < 4398046511104 := by omega
            clear HR0 HC0 HR1 HC1 A5 A6 A7 HGD HG0 Ny147 LMc10 Ny151 Ny154 LMc11 Ny157 Ny160 LMc14 Ny164 HT_ HW_ HR150 HR163 HO145 HO156 HO166 BK141 hHeld KY20 KL20 KY21 KA21 KL21 HC150 HC163 hcut20 hcut21 hm1 hl64 h164
            try clear c8b0 c8b1 c9b0 c9b1 c12b0 c13b0 q20 q21 q021
            obtain ⟨i5, hi5, _, hsz5, _⟩ := info_parts info36
            by_cases h8 : 8 < (l0.length : Int)
            · have hd8 : decide (8 < (l0.length : Int)) = true := decide_eq_true h8
              obtain ⟨y0, hy0⟩ : ∃ y_ : List S36, y_ = l0.take 8 := ⟨_, rfl⟩
              have hyl : y0.length = 8 := by rw [hy0, List.length_take]; omega
              have hg0 : goodB y0 = true := by rw [hy0]; exact hg00
              have hcut5 := cut_to (P := Try.prog) 22 36 .i64 Try.underlying22 hi5 A0 l0.length c0 8 (by omega) (by omega) hc0
              rw [show ((8 : Int)).toNat = 8 from rfl] at hcut5
              have hr5 := Kd.C_take (m := 8) hC0 (by omega)
              rw [← hy0] at hr5
              have hYS : ∀ j : Nat, j < 3 → ∃ (A : Option Addr) (c : Nat) (y : List S36), (#[Value.slice A0 8 c0, .slice Ao3 y164.length co3, .slice Ao18 t143.length co18])[j]? = some (.slice A y.length c) ∧ y.length ≤ c ∧ y.length < 10000000000000 ∧ goodB y = true ∧ ∀ W, Below w28.heap.size w28 W → Kd.C k36 W A y.length y := by
                intro j hj
                match j, hj with
                | 0, _ => exact ⟨A0, c0, y0, by rw [hyl]; rfl, by omega, by omega, hg0, fun W hb => Kd.C_below hr5 hb⟩
                | 1, _ => exact ⟨Ao3, co3, y164, rfl, hc3, by omega, hy164, fun W hb => Kd.C_below hC3 hb⟩
                | 2, _ => exact ⟨Ao18, co18, t143, rfl, hc2, by omega, hgt, fun W hb => Kd.C_below hC2 hb⟩
              have HYS := Aside0.mk hYS
              have HBL := Aside0.mk (blk_new w28 (.cells #[.slice A0 8 c0, .slice Ao3 y164.length co3, .slice Ao18 t143.length co18] 22))
              have HB9 := Aside0.mk (below_alloc HB.out (.cells #[.slice A0 8 c0, .slice Ao3 y164.length co3, .slice Ao18 t143.length co18] 22))
              have HBA := Aside0.mk (below_alloc (Below.refl w28.heap.size w28) (.cells #[.slice A0 8 c0, .slice Ao3 y164.length co3, .slice Ao18 t143.length co18] 22))
              clear hYS hC0 hC2 hC3 hr5 hgt hy164 hg0 hg00
              go_wp2
              generalize hw9 : (w28.alloc (.cells #[.slice A0 8 c0, .slice Ao3 y164.length co3, .slice Ao18 t143.length co18] 22)) = w9 at *
              have HB0 := Aside0.mk (Below.refl w9.heap.size w9)
              go_loopw [48] (fun i wr => ∃ j : Nat, i = .int .i64 j ∧ j ≤ 3 ∧ Aside0 (Below w9.heap.size w9 wr)) (fun i _ => 3 - (intOf i).toNat)
              case atStart => exact ⟨0, rfl, by omega, HB0⟩
              case round =>
                obtain ⟨j, rfl, hj3, HBr⟩ := hrel
                by_cases hlt : j < 3
                · obtain ⟨A, c, y, hcell, hyc, hyn, hgood, hCy⟩ := HYS.out j hlt
                  have hx := (blk_cell (blk_below HBL.out HBr.out) j).trans hcell
                  have hCr := Aside0.mk (hCy wr (HBA.out.trans (HBr.out.mono HBA.out.size)))
                  have hd3 : decide (j < 3) = true := decide_eq_true hlt
                  obtain ⟨i6, hi6, _, hsz6, _⟩ := info_parts info36
                  clear hcell hCy
                  rcases good_of hgood with ⟨hck, hpre⟩ | ⟨n, hn0, hn1, hck, hpre⟩
                  · have HPRE := Aside0.mk hpre
                    have HCK := Aside0.mk (fun (W : World) (hb : Below wr.heap.size wr W) => tempo_Check.calls 40 A c y 0 0 W (Kd.C_below hCr.out hb) hyc hck)
                    clear hpre hck hgood
                    go_wp2_with (go_at_call 20; (with_reducible refine (HCK.out _ (Below.refl _ _)).mono ?_); rintro e w1 ⟨rfl, hb⟩; have HB1 := Aside0.mk hb; clear hb)
                    go_loopw [17] (fun q w2 => ∃ u : Nat, q = .int .i64 u ∧ u ≤ y.length + 1 ∧ Aside0 (Below wr.heap.size wr w2)) (fun q _ => y.length + 1 - (intOf q).toNat)
                    case atStart => exact ⟨0, rfl, by omega, HB1⟩
                    case round =>
                      obtain ⟨u, rfl, hu, HB2⟩ := hrel
                      by_cases hul : u ≤ y.length
                      · obtain ⟨v, hv⟩ : ∃ v, v = y.take u := ⟨_, rfl⟩
                        have hvl : v.length = u := by rw [hv, List.length_take]; omega
                        have hcut6 := cut_to (P := Try.prog) 22 36 .i64 Try.underlying22 hi6 A y.length c (u : Int) (by omega) (by omega) hyc
                        rw [Int.toNat_natCast] at hcut6
                        have hC6 := Kd.C_take (m := u) hCr.out hul
                        rw [← hv] at hC6
                        have hdu : decide (u ≤ y.length) = true := decide_eq_true hul
                        obtain ⟨p, hp⟩ := HPRE.out u hul
                        rw [← hv] at hp
                        have M := Aside0.mk (fun (W : World) (hb : Below _ _ W) => tempo_Check.calls 40 A c v p 0 W (Kd.C_below hC6 hb) (by omega) hp)
                        rw [hvl] at M
                        clear hC6 hp
                        go_wp2_with (go_at_call 20; (with_reducible refine (M.out _ HB2.out).mono ?_); rintro e w5 ⟨rfl, hb⟩; have HB5 := Aside0.mk hb; clear hb)
                        go_roundw
                        case rel => exact ⟨u + 1, by go_num, by omega, ⟨HB2.out.trans (HB5.out.mono HB2.out.size)⟩⟩
                        case measure => simp [intOf]; omega
                      · have e : u = y.length + 1 := by omega
                        subst e
                        have hdu : decide (y.length + 1 ≤ y.length) = false := decide_eq_false (by omega)
                        have hdv : decide (((y.length + 1 : Nat) : Int) ≤ (y.length : Int)) = false := decide_eq_false (by omega)
                        go_wp2
                        go_roundw
                        case rel => exact ⟨j + 1, by go_num, by omega, ⟨HBr.out.trans (HB2.out.mono HBr.out.size)⟩⟩
                        case measure => simp [intOf]; omega
                  · have HPRE := Aside0.mk hpre
                    have HCK := Aside0.mk (fun (W : World) (hb : Below wr.heap.size wr W) => tempo_Check.calls 40 A c y n 110 W (Kd.C_below hCr.out hb) hyc hck)
                    clear hpre hck hgood
                    have hd1 : decide (n < 0) = false := decide_eq_false (by omega)
                    have hd2 : decide ((y.length : Int) ≤ n) = false := decide_eq_false (by omega)
                    go_wp2_with (go_at_call 20; (with_reducible refine (HCK.out _ (Below.refl _ _)).mono ?_); rintro e w1 ⟨rfl, hb⟩; have HB1 := Aside0.mk hb; clear hb)
                    go_loopw [17] (fun q w2 => ∃ u : Nat, q = .int .i64 u ∧ u ≤ y.length + 1 ∧ Aside0 (Below wr.heap.size wr w2)) (fun q _ => y.length + 1 - (intOf q).toNat)
                    case atStart => exact ⟨0, rfl, by omega, HB1⟩
                    case round =>
                      obtain ⟨u, rfl, hu, HB2⟩ := hrel
                      by_cases hul : u ≤ y.length
                      · obtain ⟨v, hv⟩ : ∃ v, v = y.take u := ⟨_, rfl⟩
                        have hvl : v.length = u := by rw [hv, List.length_take]; omega
                        have hcut6 := cut_to (P := Try.prog) 22 36 .i64 Try.underlying22 hi6 A y.length c (u : Int) (by omega) (by omega) hyc
                        rw [Int.toNat_natCast] at hcut6
                        have hC6 := Kd.C_take (m := u) hCr.out hul
                        rw [← hv] at hC6
                        have hdu : decide (u ≤ y.length) = true := decide_eq_true hul
                        by_cases hnu : n < (u : Int)
                        · have hp := (HPRE.out u hul).1 (by omega)
                          rw [← hv] at hp
                          have hd7 : decide (n < (u : Int)) = true := decide_eq_true hnu
                          have hd8_ : decide ((u : Int) ≤ n) = false := decide_eq_false (by omega)
                          have hd9_ : (n == n) = true := by simp
                          have M := Aside0.mk (fun (W : World) (hb : Below _ _ W) => tempo_Check.calls 40 A c v n 110 W (Kd.C_below hC6 hb) (by omega) hp)
                          rw [hvl] at M
                          clear hC6 hp
                          go_wp2_with (go_at_call 20; (with_reducible refine (M.out _ HB2.out).mono ?_); rintro e w5 ⟨rfl, hb⟩; have HB5 := Aside0.mk hb; clear hb)
                          go_roundw
                          case rel => exact ⟨u + 1, by go_num, by omega, ⟨HB2.out.trans (HB5.out.mono HB2.out.size)⟩⟩
                          case measure => simp [intOf]; omega
                        · obtain ⟨p, hp⟩ := (HPRE.out u hul).2 (by omega)
                          rw [← hv] at hp
                          have hd7 : decide (n < (u : Int)) = false := decide_eq_false hnu
                          have hd8_ : decide ((u : Int) ≤ n) = true := decide_eq_true (by omega)
                          have M := Aside0.mk (fun (W : World) (hb : Below _ _ W) => tempo_Check.calls 40 A c v p 0 W (Kd.C_below hC6 hb) (by omega) hp)
                          rw [hvl] at M
                          clear hC6 hp
                          go_wp2_with (go_at_call 20; (with_reducible refine (M.out _ HB2.out).mono ?_); rintro e w5 ⟨rfl, hb⟩; have HB5 := Aside0.mk hb; clear hb)
                          go_roundw
                          case rel => exact ⟨u + 1, by go_num, by omega, ⟨HB2.out.trans (HB5.out.mono HB2.out.size)⟩⟩
                          case measure => simp [intOf]; omega
                      · have e : u = y.length + 1 := by omega
                        subst e
                        have hdu : decide (y.length + 1 ≤ y.length) = false := decide_eq_false (by omega)
                        have hdv : decide (((y.length + 1 : Nat) : Int) ≤ (y.length : Int)) = false := decide_eq_false (by omega)
                        go_wp2
                        go_roundw
                        case rel => exact ⟨j + 1, by go_num, by omega, ⟨HBr.out.trans (HB2.out.mono HBr.out.size)⟩⟩
                        case measure => simp [intOf]; omega
                · have e : j = 3 := by omega
                  subst e
                  go_wp2
                  go_ret
                  exact ⟨rfl, HB9.out.trans (HBr.out.mono HB9.out.size)⟩
            · have hd8 : decide (8 < (l0.length : Int)) = false := decide_eq_false h8
              obtain ⟨y0, hy0⟩ : ∃ y_ : List S36, y_ = l0 := ⟨_, rfl⟩
              have hyl : y0.length = l0.length := by rw [hy0]
              have hg0 : goodB y0 = true := by rw [hy0, ← List.take_of_length_le (show l0.length ≤ 8 by omega)]; exact hg00
              have hcut5 := cut_to (P := Try.prog) 22 36 .i64 Try.underlying22 hi5 A0 l0.length c0 (l0.length : Int) (by omega) (by omega) hc0
              rw [Int.toNat_natCast] at hcut5
              have hr5 := hC0
              rw [← hy0] at hr5
              have hYS : ∀ j : Nat, j < 3 → ∃ (A : Option Addr) (c : Nat) (y : List S36), (#[Value.slice A0 l0.length c0, .slice Ao3 y164.length co3, .slice Ao18 t143.length co18])[j]? = some (.slice A y.length c) ∧ y.length ≤ c ∧ y.length < 10000000000000 ∧ goodB y = true ∧ ∀ W, Below w28.heap.size w28 W → Kd.C k36 W A y.length y := by
                intro j hj
                match j, hj with
                | 0, _ => exact ⟨A0, c0, y0, by rw [hyl]; rfl, by omega, by omega, hg0, fun W hb => Kd.C_below hr5 hb⟩
                | 1, _ => exact ⟨Ao3, co3, y164, rfl, hc3, by omega, hy164, fun W hb => Kd.C_below hC3 hb⟩
                | 2, _ => exact ⟨Ao18, co18, t143, rfl, hc2, by omega, hgt, fun W hb => Kd.C_below hC2 hb⟩
              have HYS := Aside0.mk hYS
              have HBL := Aside0.mk (blk_new w28 (.cells #[.slice A0 l0.length c0, .slice Ao3 y164.length co3, .slice Ao18 t143.length co18] 22))
              have HB9 := Aside0.mk (below_alloc HB.out (.cells #[.slice A0 l0.length c0, .slice Ao3 y164.length co3, .slice Ao18 t143.length co18] 22))
              have HBA := Aside0.mk (below_alloc (Below.refl w28.heap.size w28) (.cells #[.slice A0 l0.length c0, .slice Ao3 y164.length co3, .slice Ao18 t143.length co18] 22))
              clear hYS hC0 hC2 hC3 hr5 hgt hy164 hg0 hg00
              go_wp2
              generalize hw9 : (w28.alloc (.cells #[.slice A0 l0.length c0, .slice Ao3 y164.length co3, .slice Ao18 t143.length co18] 22)) = w9 at *
              have HB0 := Aside0.mk (Below.refl w9.heap.size w9)
              go_loopw [48] (fun i wr => ∃ j : Nat, i = .int .i64 j ∧ j ≤ 3 ∧ Aside0 (Below w9.heap.size w9 wr)) (fun i _ => 3 - (intOf i).toNat)
              case atStart => exact ⟨0, rfl, by omega, HB0⟩
              case round =>
                obtain ⟨j, rfl, hj3, HBr⟩ := hrel
                by_cases hlt : j < 3
                · obtain ⟨A, c, y, hcell, hyc, hyn, hgood, hCy⟩ := HYS.out j hlt
                  have hx := (blk_cell (blk_below HBL.out HBr.out) j).trans hcell
                  have hCr := Aside0.mk (hCy wr (HBA.out.trans (HBr.out.mono HBA.out.size)))
                  have hd3 : decide (j < 3) = true := decide_eq_true hlt
                  obtain ⟨i6, hi6, _, hsz6, _⟩ := info_parts info36
                  clear hcell hCy
                  rcases good_of hgood with ⟨hck, hpre⟩ | ⟨n, hn0, hn1, hck, hpre⟩
                  · have HPRE := Aside0.mk hpre
                    have HCK := Aside0.mk (fun (W : World) (hb : Below wr.heap.size wr W) => tempo_Check.calls 40 A c y 0 0 W (Kd.C_below hCr.out hb) hyc hck)
                    clear hpre hck hgood
                    go_wp2_with (go_at_call 20; (with_reducible refine (HCK.out _ (Below.refl _ _)).mono ?_); rintro e w1 ⟨rfl, hb⟩; have HB1 := Aside0.mk hb; clear hb)
                    go_loopw [17] (fun q w2 => ∃ u : Nat, q = .int .i64 u ∧ u ≤ y.length + 1 ∧ Aside0 (Below wr.heap.size wr w2)) (fun q _ => y.length + 1 - (intOf q).toNat)
                    case atStart => exact ⟨0, rfl, by omega, HB1⟩
                    case round =>
                      obtain ⟨u, rfl, hu, HB2⟩ := hrel
                      by_cases hul : u ≤ y.length
                      · obtain ⟨v, hv⟩ : ∃ v, v = y.take u := ⟨_, rfl⟩
                        have hvl : v.length = u := by rw [hv, List.length_take]; omega
                        have hcut6 := cut_to (P := Try.prog) 22 36 .i64 Try.underlying22 hi6 A y.length c (u : Int) (by omega) (by omega) hyc
                        rw [Int.toNat_natCast] at hcut6
                        have hC6 := Kd.C_take (m := u) hCr.out hul
                        rw [← hv] at hC6
                        have hdu : decide (u ≤ y.length) = true := decide_eq_true hul
                        obtain ⟨p, hp⟩ := HPRE.out u hul
                        rw [← hv] at hp
                        have M := Aside0.mk (fun (W : World) (hb : Below _ _ W) => tempo_Check.calls 40 A c v p 0 W (Kd.C_below hC6 hb) (by omega) hp)
                        rw [hvl] at M
                        clear hC6 hp
                        go_wp2_with (go_at_call 20; (with_reducible refine (M.out _ HB2.out).mono ?_); rintro e w5 ⟨rfl, hb⟩; have HB5 := Aside0.mk hb; clear hb)
                        go_roundw
                        case rel => exact ⟨u + 1, by go_num, by omega, ⟨HB2.out.trans (HB5.out.mono HB2.out.size)⟩⟩
                        case measure => simp [intOf]; omega
                      · have e : u = y.length + 1 := by omega
                        subst e
                        have hdu : decide (y.length + 1 ≤ y.length) = false := decide_eq_false (by omega)
                        have hdv : decide (((y.length + 1 : Nat) : Int) ≤ (y.length : Int)) = false := decide_eq_false (by omega)
                        go_wp2
                        go_roundw
                        case rel => exact ⟨j + 1, by go_num, by omega, ⟨HBr.out.trans (HB2.out.mono HBr.out.size)⟩⟩
                        case measure => simp [intOf]; omega
                  · have HPRE := Aside0.mk hpre
                    have HCK := Aside0.mk (fun (W : World) (hb : Below wr.heap.size wr W) => tempo_Check.calls 40 A c y n 110 W (Kd.C_below hCr.out hb) hyc hck)
                    clear hpre hck hgood
                    have hd1 : decide (n < 0) = false := decide_eq_false (by omega)
                    have hd2 : decide ((y.length : Int) ≤ n) = false := decide_eq_false (by omega)
                    go_wp2_with (go_at_call 20; (with_reducible refine (HCK.out _ (Below.refl _ _)).mono ?_); rintro e w1 ⟨rfl, hb⟩; have HB1 := Aside0.mk hb; clear hb)
                    go_loopw [17] (fun q w2 => ∃ u : Nat, q = .int .i64 u ∧ u ≤ y.length + 1 ∧ Aside0 (Below wr.heap.size wr w2)) (fun q _ => y.length + 1 - (intOf q).toNat)
                    case atStart => exact ⟨0, rfl, by omega, HB1⟩
                    case round =>
                      obtain ⟨u, rfl, hu, HB2⟩ := hrel
                      by_cases hul : u ≤ y.length
                      · obtain ⟨v, hv⟩ : ∃ v, v = y.take u := ⟨_, rfl⟩
                        have hvl : v.length = u := by rw [hv, List.length_take]; omega
                        have hcut6 := cut_to (P := Try.prog) 22 36 .i64 Try.underlying22 hi6 A y.length c (u : Int) (by omega) (by omega) hyc
                        rw [Int.toNat_natCast] at hcut6
                        have hC6 := Kd.C_take (m := u) hCr.out hul
                        rw [← hv] at hC6
                        have hdu : decide (u ≤ y.length) = true := decide_eq_true hul
                        by_cases hnu : n < (u : Int)
                        · have hp := (HPRE.out u hul).1 (by omega)
                          rw [← hv] at hp
                          have hd7 : decide (n < (u : Int)) = true := decide_eq_true hnu
                          have hd8_ : decide ((u : Int) ≤ n) = false := decide_eq_false (by omega)
                          have hd9_ : (n == n) = true := by simp
                          have M := Aside0.mk (fun (W : World) (hb : Below _ _ W) => tempo_Check.calls 40 A c v n 110 W (Kd.C_below hC6 hb) (by omega) hp)
                          rw [hvl] at M
                          clear hC6 hp
                          go_wp2_with (go_at_call 20; (with_reducible refine (M.out _ HB2.out).mono ?_); rintro e w5 ⟨rfl, hb⟩; have HB5 := Aside0.mk hb; clear hb)
                          go_roundw
                          case rel => exact ⟨u + 1, by go_num, by omega, ⟨HB2.out.trans (HB5.out.mono HB2.out.size)⟩⟩
                          case measure => simp [intOf]; omega
                        · obtain ⟨p, hp⟩ := (HPRE.out u hul).2 (by omega)
                          rw [← hv] at hp
                          have hd7 : decide (n < (u : Int)) = false := decide_eq_false hnu
                          have hd8_ : decide ((u : Int) ≤ n) = true := decide_eq_true (by omega)
                          have M := Aside0.mk (fun (W : World) (hb : Below _ _ W) => tempo_Check.calls 40 A c v p 0 W (Kd.C_below hC6 hb) (by omega) hp)
                          rw [hvl] at M
                          clear hC6 hp
                          go_wp2_with (go_at_call 20; (with_reducible refine (M.out _ HB2.out).mono ?_); rintro e w5 ⟨rfl, hb⟩; have HB5 := Aside0.mk hb; clear hb)
                          go_roundw
                          case rel => exact ⟨u + 1, by go_num, by omega, ⟨HB2.out.trans (HB5.out.mono HB2.out.size)⟩⟩
                          case measure => simp [intOf]; omega
                      · have e : u = y.length + 1 := by omega
                        subst e
                        have hdu : decide (y.length + 1 ≤ y.length) = false := decide_eq_false (by omega)
                        have hdv : decide (((y.length + 1 : Nat) : Int) ≤ (y.length : Int)) = false := decide_eq_false (by omega)
                        go_wp2
                        go_roundw
                        case rel => exact ⟨j + 1, by go_num, by omega, ⟨HBr.out.trans (HB2.out.mono HBr.out.size)⟩⟩
                        case measure => simp [intOf]; omega
                · have e : j = 3 := by omega
                  subst e
                  go_wp2
                  go_ret
                  exact ⟨rfl, HB9.out.trans (HBr.out.mono HB9.out.size)⟩
          · rw [if_neg c14] at H
            exact absurd H (by simp)
        · rw [if_neg c11] at H
          exact absurd H (by simp)
      · rw [if_neg c10] at H
        exact absurd H (by simp)
    · rw [if_neg c9] at H
      exact absurd H (by simp)
  · rw [if_neg c8] at H
    exact absurd H (by simp)
def partitalaw11_TempoCheck.f (k : Nat) (l0 : List (S36)) (l1 : List (S36)) (a2 : Int) (a3_0 : Int) (a3_1 : Int) (a3_2 : Int) (a3_3 : Bool) : Option (Bool) :=
  if l0.length < 4398046511104 ∧ goodB (l0.take 8) = true then
    (partitalaw11_Map.f k l1).bind fun m => (partitalaw11_pick.f a2 (wrap64 ((m.length : Int) + 1))).bind fun q =>
      if goodB (m.take q.toNat ++ ([(⟨(⟨a3_0, a3_1⟩ : S27), a3_2, a3_3⟩ : S36)] : List (S36)) ++ m.drop q.toNat) = true ∧ goodB m = true then tcG.f k l0 l1 a2 a3_0 a3_1 a3_2 a3_3 else none
  else none
theorem partitalaw11_TempoCheck.mono : ∀ a0 a1 a2 a3 a4 a5 a6 k, LeO (partitalaw11_TempoCheck.f k a0 a1 a2 a3 a4 a5 a6) (partitalaw11_TempoCheck.f (k + 1) a0 a1 a2 a3 a4 a5 a6) := by
  intro a0 a1 a2 a3 a4 a5 a6 k
  unfold partitalaw11_TempoCheck.f
  exact LeO.ite (LeO.bind (partitalaw11_Map.mono _ _) (fun _ => LeO.bind (LeO.refl _) (fun _ => LeO.ite (tcG.mono _ _ _ _ _ _ _ _) (LeO.refl _)))) (LeO.refl _)
theorem partitalaw11_TempoCheck.calls (k : Nat) (A0 : Option Addr) (c0 : Nat) (l0 : List (S36)) (A1 : Option Addr) (c1 : Nat) (l1 : List (S36)) (a2 : Int) (a3_0 : Int) (a3_1 : Int) (a3_2 : Int) (a3_3 : Bool) (r : Bool) (w : World) (hr0 : Kd.C k36 w A0 l0.length l0) (hc0 : l0.length ≤ c0) (hr1 : Kd.C k36 w A1 l1.length l1) (hc1 : l1.length ≤ c1) (h : partitalaw11_TempoCheck.f k l0 l1 a2 a3_0 a3_1 a3_2 a3_3 = some r) :
    Calls Try.prog 9 #[.slice A0 l0.length c0, .slice A1 l1.length c1, .int .i64 a2, .agg #[.int .i64 a3_0, .int .i64 a3_1, .int .i64 a3_2, .bool a3_3]] w fun e w' => e = .returned (.bool r) ∧ Below w.heap.size w w' := by
  unfold partitalaw11_TempoCheck.f at h
  split at h
  next hc =>
    obtain ⟨m, hM, h⟩ := Option.bind_eq_some_iff.mp h
    obtain ⟨q, hQ, h⟩ := Option.bind_eq_some_iff.mp h
    split at h
    next hg =>
      refine tcG.calls k A0 c0 l0 A1 c1 l1 a2 a3_0 a3_1 a3_2 a3_3 r w hr0 hc0 hr1 hc1 h (fun m2 q2 h1 h2 => ?_) hc.2 hc.1
      rw [hM] at h1
      obtain rfl := Option.some.inj h1
      rw [hQ] at h2
      obtain rfl := Option.some.inj h2
      exact hg
    next => cases h
  next => cases h

end Go.Proofs.Ytchjlkokfgmjaaa.Q
