-- Written by a program of this session (myprint.py), function by function.
import Derived.Test.YtiifeheejapegaaQ0
namespace Go.Proofs.Ytiifeheejapegaa.Q
open Go.RowKit Go.Proofs.YtiifeheejapegaaW.PrintWords Go.Proofs.YtiifeheejapegaaW.PrintLast Go.Proofs.YtiifeheejapegaaW.PrintMore
attribute [local go_sem] max2_int min2_int max_two min_two max_three min_three max_four min_four   -- for this text's walks alone
set_option linter.unusedVariables false
set_option linter.unusedSimpArgs false

/-! ### ratio_abs: function 36 -/
def absU (a : Int) : Int := if a < 0 then IntKind.u64.wrap (-(IntKind.u64.wrap a)) else IntKind.u64.wrap a
def ratio_abs.f (a0 : Int) : Option Int := some (absU a0)
theorem ratio_abs.calls (a0 : Int) (r : Int) (w : World) (h : ratio_abs.f a0 = some r) :
    Calls Try.prog 36 #[.int .i64 a0] w fun e w' => e = .returned (.int .u64 r) ∧ Drawn0 w w' := by
  obtain rfl := Option.some.inj h
  unfold absU
  by_cases c2 : a0 < 0
  · rw [if_pos c2]
    have c2b0 : decide (a0 < 0) = true := decide_eq_true c2
    clear c2 h
    go_enter Try.func36, Try.ntmps36
    go_wp2
    go_ret
    exact ⟨rfl, Drawn0.refl _⟩
  · rw [if_neg c2]
    have c2b0 : decide (a0 < 0) = false := decide_eq_false c2
    clear c2 h
    go_enter Try.func36, Try.ntmps36
    go_wp2
    go_ret
    exact ⟨rfl, Drawn0.refl _⟩

/-! ### ratio_common: function 37 -/
def ratio_common.f (a0 a1 : Int) : Option Int := if 0 ≤ a0 ∧ 0 ≤ a1 then some (Int.gcd a0 a1) else none
theorem gcd_step {a b : Int} (ha : 0 ≤ a) (hb : 0 ≤ b) : (Int.gcd b (a % b) : Int) = Int.gcd a b := by
  obtain ⟨m, rfl⟩ := Int.eq_ofNat_of_zero_le ha
  obtain ⟨n, rfl⟩ := Int.eq_ofNat_of_zero_le hb
  rw [← Int.natCast_emod]
  simp only [Int.gcd_natCast_natCast]
  rw [Nat.gcd_comm m n, Nat.gcd_rec n m, Nat.gcd_comm]
set_option maxHeartbeats 400000 in
theorem ratio_common.go (n : Nat) : ∀ (a0 a1 : Int) (w : World), 0 ≤ a0 → 0 ≤ a1 → a1 < n →
    Calls Try.prog 37 #[.int .u64 a0, .int .u64 a1] w fun e w' => e = .returned (.int .u64 (Int.gcd a0 a1)) ∧ Drawn0 w w' := by
  induction n with
  | zero => intro a0 a1 w h0 h1 h2; omega
  | succ n ih =>
    intro a0 a1 w h0 h1 h2
    by_cases c : a1 = 0
    · subst c
      have hg : ((Int.gcd a0 0 : Nat) : Int) = a0 := by simp; omega
      rw [hg]
      clear hg ih
      go_enter Try.func37, Try.ntmps37
      go_wp2
      go_ret
      exact ⟨rfl, Drawn0.refl _⟩
    · rw [← gcd_step h0 h1]
      have hlt : a0 % a1 < n := by have := Int.emod_lt_of_pos a0 (show 0 < a1 by omega); omega
      have hge : 0 ≤ a0 % a1 := Int.emod_nonneg _ c
      have c3b0 : (a1 == 0) = false := beq_eq_false_iff_ne.mpr c
      have c3b1 : (a1 != 0) = true := bne_iff_ne.mpr c
      have IH := ih a1 ((a0 % a1))
      generalize hr : (Int.gcd a1 ((a0 % a1)) : Int) = r
      rw [hr] at IH
      have IH2 := Aside0.mk IH
      clear IH ih hr
      go_enter Try.func37, Try.ntmps37
      go_wp2_with (go_at_call 37; (with_reducible refine (IH2.out _ h1 hge hlt).mono ?_); rintro e w' ⟨rfl, ⟨nd, rfl⟩⟩)
      go_ret
      exact ⟨rfl, _, rfl⟩
theorem ratio_common.calls (a0 a1 : Int) (r : Int) (w : World) (h : ratio_common.f a0 a1 = some r) :
    Calls Try.prog 37 #[.int .u64 a0, .int .u64 a1] w fun e w' => e = .returned (.int .u64 r) ∧ Drawn0 w w' := by
  unfold ratio_common.f at h
  split at h
  next hc => obtain rfl := Option.some.inj h; exact ratio_common.go (a1.toNat + 1) a0 a1 w hc.1 hc.2 (by omega)
  next => cases h


/-! ### ratio_Right: function 22 -/
theorem absU_nonneg (a : Int) : 0 ≤ absU a := by
  have h : ∀ x, 0 ≤ IntKind.u64.wrap x := fun x => by simp only [IntKind.wrap]; simp [IntKind.signed, IntKind.bits]; omega
  unfold absU; split <;> exact h _
def rightB (n d : Int) : Bool := decide (1 ≤ d) && (decide (mx (absU n) (absU d) ≤ 1000000000) && ((Int.gcd (absU n) (absU d) : Int) == 1))
theorem abs_q (a0 : Int) (w : World) (n : Nat) : Calls Try.prog 36 #[.int .i64 a0] (w.drewN n) fun e w' => e = .returned (.int .u64 (absU a0)) ∧ ∃ m, w' = w.drewN m := by
  refine (ratio_abs.calls a0 _ _ rfl).mono ?_
  rintro e w' ⟨rfl, ⟨m, rfl⟩⟩
  exact ⟨rfl, _, World.drewN_drewN _ _ _⟩
theorem common_q (a0 a1 : Int) (w : World) (n : Nat) (h0 : 0 ≤ a0) (h1 : 0 ≤ a1) : Calls Try.prog 37 #[.int .u64 a0, .int .u64 a1] (w.drewN n) fun e w' => e = .returned (.int .u64 (Int.gcd a0 a1)) ∧ ∃ m, w' = w.drewN m := by
  refine (ratio_common.calls a0 a1 _ _ (by unfold ratio_common.f; rw [if_pos ⟨h0, h1⟩])).mono ?_
  rintro e w' ⟨rfl, ⟨m, rfl⟩⟩
  exact ⟨rfl, _, World.drewN_drewN _ _ _⟩
set_option maxHeartbeats 1000000 in
set_option maxRecDepth 100000 in
theorem ratio_Right.any (a b : Int) (w : World) :
    Calls Try.prog 22 #[.agg #[.int .i64 a, .int .i64 b]] w fun e w' => e = .returned (.bool (rightB a b)) ∧ Below w.heap.size w w' := by
  unfold rightB
  have ha := absU_nonneg a
  have hb := absU_nonneg b
  have HB := Aside0.mk (Below.refl w.heap.size w)
  by_cases c1 : 1 ≤ b
  · have d1 : decide (1 ≤ b) = true := decide_eq_true c1
    rw [d1, Bool.true_and]
    clear c1
    by_cases c2 : mx (absU a) (absU b) ≤ 1000000000
    · have c3 : decide ((if absU a < absU b then absU b else absU a) ≤ 1000000000) = true := decide_eq_true c2
      rw [decide_eq_true c2, Bool.true_and]
      clear c2
      go_enter Try.func22, Try.ntmps22
      go_wp2
      go_quiet (first | (go_at_call 36; exact abs_q _ _ _) | (go_at_call 37; exact common_q _ _ _ _ (by assumption) (by assumption)))
      go_wp2
      all_goals
        go_ret
        exact ⟨rfl, by repeat (first | exact HB.out | apply below_alloc | apply pw_below_drewN)⟩
    · have c3 : decide ((if absU a < absU b then absU b else absU a) ≤ 1000000000) = false := decide_eq_false c2
      rw [decide_eq_false c2, Bool.false_and]
      clear c2
      go_enter Try.func22, Try.ntmps22
      go_wp2
      go_quiet (first | (go_at_call 36; exact abs_q _ _ _) | (go_at_call 37; exact common_q _ _ _ _ (by assumption) (by assumption)))
      go_wp2
      all_goals
        go_ret
        exact ⟨rfl, by repeat (first | exact HB.out | apply below_alloc | apply pw_below_drewN)⟩
  · have d1 : decide (1 ≤ b) = false := decide_eq_false c1
    rw [d1, Bool.false_and]
    clear c1
    go_enter Try.func22, Try.ntmps22
    go_wp2
    go_quiet (fail)
    go_wp2
    go_ret
    exact ⟨rfl, by repeat (first | exact HB.out | apply below_alloc | apply pw_below_drewN)⟩
def ratio_Right.f (a0_0 a0_1 : Int) : Option Bool := some (rightB a0_0 a0_1)
theorem ratio_Right.calls (a b : Int) (r : Bool) (w : World) (h : ratio_Right.f a b = some r) :
    Calls Try.prog 22 #[.agg #[.int .i64 a, .int .i64 b]] w fun e w' => e = .returned (.bool r) ∧ Below w.heap.size w w' := by
  obtain rfl := Option.some.inj h
  exact ratio_Right.any a b w
theorem Right_eq {a b : Int} {x : Bool} (h : rightB a b = x) (w : World) :
    Calls Try.prog 22 #[.agg #[.int .i64 a, .int .i64 b]] w fun e w' => e = .returned (.bool x) ∧ Below w.heap.size w w' := h ▸ ratio_Right.any a b w

/-! ### ratio_Compare: function 19 -/
def cmpD (a b c d : Int) : Int := wrap64 (wrap64 (a * d) - wrap64 (c * b))
def cmpI (a b c d : Int) : Int := if (rightB a b && (rightB c d && !(cmpD a b c d == 0))) = true then (if cmpD a b c d < 0 then -1 else 1) else 0
def ratio_Compare.f (a b c d : Int) : Option Int := some (cmpI a b c d)
theorem bcell {W w1 : World} (hb : Below W.heap.size W w1) : (∀ b o, b < W.heap.size → w1.cell? ⟨b, o, none⟩ = W.cell? ⟨b, o, none⟩) ∧ (∀ b o, b < W.heap.size → w1.frozen? ⟨b, o, none⟩ = W.frozen? ⟨b, o, none⟩) :=
  ⟨fun b o h => hb.cell (p := ⟨b, o, none⟩) h, fun b o h => hb.frozen (p := ⟨b, o, none⟩) h⟩
set_option maxHeartbeats 1000000 in
set_option maxRecDepth 100000 in
theorem ratio_Compare.calls (a b c d r : Int) (w : World) (h : ratio_Compare.f a b c d = some r) :
    Calls Try.prog 19 #[.agg #[.int .i64 a, .int .i64 b], .agg #[.int .i64 c, .int .i64 d]] w fun e w' => e = .returned (.int .i64 r) ∧ Below w.heap.size w w' := by
  have h0 : cmpI a b c d = r := Option.some.inj h
  unfold cmpI cmpD at h0
  clear h
  have HB := Aside0.mk (Below.refl w.heap.size w)
  by_cases h1 : rightB a b = true
  · rw [h1, Bool.true_and] at h0
    have R := Aside0.mk (Right_eq h1)
    clear h1
    by_cases h2 : rightB c d = true
    · rw [h2, Bool.true_and] at h0
      have RR := Aside0.mk (Right_eq h2)
      clear h2
      generalize hE : wrap64 (wrap64 (a * d) - wrap64 (c * b)) = E at h0
      by_cases h3 : E = 0
      · have e1 : (E == 0) = true := beq_iff_eq.mpr h3
        rw [e1, if_neg (by decide)] at h0
        have HE := Aside0.mk (hE.trans h3)
        subst h0
        clear h3 e1 hE
        go_enter Try.func19, Try.ntmps19
        go_wp2_with (first | (go_at_call 22; (with_reducible refine (R.out _).mono ?_); rintro e w1 ⟨rfl, hb⟩; obtain ⟨hc1, hf1⟩ := bcell hb; rw [HE.out]) | (go_at_call 22; (with_reducible refine (RR.out _).mono ?_); rintro e w2 ⟨rfl, hb2⟩))
        go_ret
        exact ⟨rfl, ((by repeat (first | exact HB.out | apply below_alloc) : Below w.heap.size w _).trans (hb.mono (by simp; omega))).trans (hb2.mono (by have := hb.size; simp at this; omega))⟩
      · have e1 : (E == 0) = false := beq_eq_false_iff_ne.mpr h3
        rw [e1, if_pos (by decide)] at h0
        have HE := Aside0.mk hE
        clear hE h3
        by_cases h4 : E < 0
        · have e4 : decide (E < 0) = true := decide_eq_true h4
          rw [if_pos h4] at h0
          subst h0
          clear h4
          go_enter Try.func19, Try.ntmps19
          go_wp2_with (first | (go_at_call 22; (with_reducible refine (R.out _).mono ?_); rintro e w1 ⟨rfl, hb⟩; obtain ⟨hc1, hf1⟩ := bcell hb; rw [HE.out]) | (go_at_call 22; (with_reducible refine (RR.out _).mono ?_); rintro e w2 ⟨rfl, hb2⟩))
          go_ret
          exact ⟨rfl, ((by repeat (first | exact HB.out | apply below_alloc) : Below w.heap.size w _).trans (hb.mono (by simp; omega))).trans (hb2.mono (by have := hb.size; simp at this; omega))⟩
        · have e4 : decide (E < 0) = false := decide_eq_false h4
          rw [if_neg h4] at h0
          subst h0
          clear h4
          go_enter Try.func19, Try.ntmps19
          go_wp2_with (first | (go_at_call 22; (with_reducible refine (R.out _).mono ?_); rintro e w1 ⟨rfl, hb⟩; obtain ⟨hc1, hf1⟩ := bcell hb; rw [HE.out]) | (go_at_call 22; (with_reducible refine (RR.out _).mono ?_); rintro e w2 ⟨rfl, hb2⟩))
          go_ret
          exact ⟨rfl, ((by repeat (first | exact HB.out | apply below_alloc) : Below w.heap.size w _).trans (hb.mono (by simp; omega))).trans (hb2.mono (by have := hb.size; simp at this; omega))⟩
    · replace h2 := Bool.eq_false_iff.mpr h2
      rw [h2, Bool.false_and, if_neg (by decide)] at h0
      have RR := Aside0.mk (Right_eq h2)
      subst h0
      clear h2
      go_enter Try.func19, Try.ntmps19
      go_wp2_with (first | (go_at_call 22; (with_reducible refine (R.out _).mono ?_); rintro e w1 ⟨rfl, hb⟩; obtain ⟨hc1, hf1⟩ := bcell hb) | (go_at_call 22; (with_reducible refine (RR.out _).mono ?_); rintro e w2 ⟨rfl, hb2⟩))
      go_ret
      exact ⟨rfl, ((by repeat (first | exact HB.out | apply below_alloc) : Below w.heap.size w _).trans (hb.mono (by simp; omega))).trans (hb2.mono (by have := hb.size; simp at this; omega))⟩
  · replace h1 := Bool.eq_false_iff.mpr h1
    rw [h1, Bool.false_and, if_neg (by decide)] at h0
    have R := Aside0.mk (Right_eq h1)
    subst h0
    clear h1
    go_enter Try.func19, Try.ntmps19
    go_wp2_with (go_at_call 22; (with_reducible refine (R.out _).mono ?_); rintro e w1 ⟨rfl, hb⟩)
    go_ret
    exact ⟨rfl, (by repeat (first | exact HB.out | apply below_alloc) : Below w.heap.size w _).trans (hb.mono (by simp; omega))⟩

/-! ### dyn_placed: function 23 -/
def dyn_placed.f (a0_0 : Int) (a0_1 : Int) : Option (Bool) := (ratio_Right.f a0_0 a0_1).bind fun t102 => (if t102 = true then (some (decide (a0_0 ≥ 0))) else (some false))
set_option maxHeartbeats 8000000 in
set_option maxRecDepth 100000 in
theorem dyn_placed.calls (a0_0 : Int) (a0_1 : Int) (r : Bool) (w : World) (h : dyn_placed.f a0_0 a0_1 = some r) :
    Calls Try.prog 23 #[.agg #[.int .i64 a0_0, .int .i64 a0_1]] w fun e w' => e = .returned (.bool r) ∧ Below w.heap.size w w' := by
  have hu29 := Try.underlying29
  have HB := Aside0.mk (Below.refl w.heap.size w)
  have H : ((ratio_Right.f a0_0 a0_1).bind fun t102 => (if t102 = true then (some (decide (a0_0 ≥ 0))) else (some false))) = some r := h
  clear h
  replace H := Option.bind_eq_some_iff.mp H
  obtain ⟨t102, A20, H⟩ := H
  replace H : (if t102 = true then (some (decide (a0_0 ≥ 0))) else (some false)) = some r := H
  have A2 := Aside0.mk A20
  clear A20
  by_cases c3 : t102 = true
  · subst c3
    have H1 : (some (decide (a0_0 ≥ 0))) = some r := by rw [if_pos rfl] at H; exact H
    clear H
    have H := H1
    clear H1
    obtain rfl := Option.some.inj H
    go_enter Try.func23, Try.ntmps23
    go_wp2_with (first | ((with_reducible refine gate_dst (N := 1) rfl ?_); refine box_event ?hg (N := 1) ?hd (cs := #[.int .i64 a0_0, .int .i64 a0_1]) (t := 29) ?hr ?_; (case hd => rfl); (case hg => rfl); (case hr => first | (go_simp; done) | (go_simp; rfl)); intro gb101 hg w4 hbox hb; have n0_ := Aside0.mk (below_step (by repeat (first | (with_reducible first | exact HB.out | apply below_alloc | apply pw_below_drewN | apply below_drew1) | exact HB.out)) hb); have n1_ := Aside0.mk (hbox); have n2_ := Aside0.mk ((by rw [hg]; exact (below_size (by repeat (first | (with_reducible first | exact HB.out | apply below_alloc | apply pw_below_drewN | apply below_drew1) | exact HB.out))) : w.heap.size ≤ gb101)); have n3_ := Aside0.mk ((by rw [hg]; exact (below_size (by repeat (first | (with_reducible first | exact HB.out | apply below_alloc | apply pw_below_drewN | apply below_drew1) | exact HB.out))) : w.heap.size ≤ gb101)); clear HB; have HB := n0_; have BK101 := n1_; have GW101 := n2_; have GE101 := n3_; clear n0_ n1_ n2_ n3_; clear hb hbox hg; have hcz5_0 : w4.cell? ⟨gb101, 0, none⟩ = some (.int .i64 a0_0) := (blk_cell BK101.out 0).trans rfl; have hcz5_1 : w4.cell? ⟨gb101, 1, none⟩ = some (.int .i64 a0_1) := (blk_cell BK101.out 1).trans rfl; have hfz5_0 := blk_frozen BK101.out 0; have hfz5_1 := blk_frozen BK101.out 1) | ((with_reducible refine gate_callee (f := 22) rfl ?_); refine goesL_ (some 4) rfl rfl Try.func22 (by kernel_rfl) rfl #[.agg #[.int .i64 a0_0, .int .i64 a0_1]] rfl (by (try simp only [List.map_toArray, List.map_cons, List.map_nil]); first | done | rfl | (simp only [List.length_drop, List.length_take]; rfl)) ?_; (with_reducible refine (ratio_Right.calls a0_0 a0_1 true _ A2.out).mono ?_); rintro e w6 ⟨rfl, hb⟩; refine ⟨_, rfl, ?_⟩; have n0_ := Aside0.mk (blk_below (g := gb101) (o := .cells #[.int .i64 a0_0, .int .i64 a0_1] 29 (0, 0)) (by (with_reducible repeat (first | refine blk_drewN ?_ _ | refine blk_drew ?_ | refine blk_alloc ?_ _)); exact BK101.out) hb); have n1_ := Aside0.mk (below_step (by repeat (first | (with_reducible first | exact HB.out | apply below_alloc | apply pw_below_drewN | apply below_drew1 | refine below_set ?_ GE101.out) | exact HB.out)) hb); clear BK101; clear HB; have BK101 := n0_; have HB := n1_; clear n0_ n1_; (try clear hb); (try clear hb2); (try clear hk); (try clear hi); have hcz7_0 : w6.cell? ⟨gb101, 0, none⟩ = some (.int .i64 a0_0) := (blk_cell BK101.out 0).trans rfl; have hcz7_1 : w6.cell? ⟨gb101, 1, none⟩ = some (.int .i64 a0_1) := (blk_cell BK101.out 1).trans rfl; have hfz7_0 := blk_frozen BK101.out 0; have hfz7_1 := blk_frozen BK101.out 1))
    go_ret
    exact ⟨by first | rfl | (simp [errW_none, errW_some] <;> rfl) | (simp [*, errW_none, errW_some] <;> rfl), by repeat (first | (with_reducible first | exact HB.out | apply below_alloc | apply pw_below_drewN | apply below_drew1 | refine below_set ?_ GE101.out) | exact HB.out)⟩
  · replace c3 := Bool.eq_false_iff.mpr c3
    subst c3
    have H1 : (some false) = some r := by rw [if_neg (show ¬ (false = true) by decide)] at H; exact H
    clear H
    have H := H1
    clear H1
    obtain rfl := Option.some.inj H
    go_enter Try.func23, Try.ntmps23
    go_wp2_with (first | ((with_reducible refine gate_dst (N := 1) rfl ?_); refine box_event ?hg (N := 1) ?hd (cs := #[.int .i64 a0_0, .int .i64 a0_1]) (t := 29) ?hr ?_; (case hd => rfl); (case hg => rfl); (case hr => first | (go_simp; done) | (go_simp; rfl)); intro gb101 hg w8 hbox hb; have n0_ := Aside0.mk (below_step (by repeat (first | (with_reducible first | exact HB.out | apply below_alloc | apply pw_below_drewN | apply below_drew1) | exact HB.out)) hb); have n1_ := Aside0.mk (hbox); have n2_ := Aside0.mk ((by rw [hg]; exact (below_size (by repeat (first | (with_reducible first | exact HB.out | apply below_alloc | apply pw_below_drewN | apply below_drew1) | exact HB.out))) : w.heap.size ≤ gb101)); have n3_ := Aside0.mk ((by rw [hg]; exact (below_size (by repeat (first | (with_reducible first | exact HB.out | apply below_alloc | apply pw_below_drewN | apply below_drew1) | exact HB.out))) : w.heap.size ≤ gb101)); clear HB; have HB := n0_; have BK101 := n1_; have GW101 := n2_; have GE101 := n3_; clear n0_ n1_ n2_ n3_; clear hb hbox hg; have hcz9_0 : w8.cell? ⟨gb101, 0, none⟩ = some (.int .i64 a0_0) := (blk_cell BK101.out 0).trans rfl; have hcz9_1 : w8.cell? ⟨gb101, 1, none⟩ = some (.int .i64 a0_1) := (blk_cell BK101.out 1).trans rfl; have hfz9_0 := blk_frozen BK101.out 0; have hfz9_1 := blk_frozen BK101.out 1) | ((with_reducible refine gate_callee (f := 22) rfl ?_); refine goesL_ (some 4) rfl rfl Try.func22 (by kernel_rfl) rfl #[.agg #[.int .i64 a0_0, .int .i64 a0_1]] rfl (by (try simp only [List.map_toArray, List.map_cons, List.map_nil]); first | done | rfl | (simp only [List.length_drop, List.length_take]; rfl)) ?_; (with_reducible refine (ratio_Right.calls a0_0 a0_1 false _ A2.out).mono ?_); rintro e w10 ⟨rfl, hb⟩; refine ⟨_, rfl, ?_⟩; have n0_ := Aside0.mk (blk_below (g := gb101) (o := .cells #[.int .i64 a0_0, .int .i64 a0_1] 29 (0, 0)) (by (with_reducible repeat (first | refine blk_drewN ?_ _ | refine blk_drew ?_ | refine blk_alloc ?_ _)); exact BK101.out) hb); have n1_ := Aside0.mk (below_step (by repeat (first | (with_reducible first | exact HB.out | apply below_alloc | apply pw_below_drewN | apply below_drew1 | refine below_set ?_ GE101.out) | exact HB.out)) hb); clear BK101; clear HB; have BK101 := n0_; have HB := n1_; clear n0_ n1_; (try clear hb); (try clear hb2); (try clear hk); (try clear hi)))
    go_ret
    exact ⟨by first | rfl | (simp [errW_none, errW_some] <;> rfl) | (simp [*, errW_none, errW_some] <;> rfl), by repeat (first | (with_reducible first | exact HB.out | apply below_alloc | apply pw_below_drewN | apply below_drew1 | refine below_set ?_ GE101.out) | exact HB.out)⟩

end Go.Proofs.Ytiifeheejapegaa.Q
