-- Written by a program of this session (myprint.py), function by function.
import Derived.Test.YtocjbedacnlaaaaGreatDoorQ0
import Derived.Test.YtocjbedacnlaaaaGreatDoorQ6
import Derived.Test.YtocjbedacnlaaaaGreatDoorQ8
import Derived.Test.YtocjbedacnlaaaaGreatDoorQ11
import Derived.Test.YtocjbedacnlaaaaGreatDoorQ12
import Derived.Test.YtocjbedacnlaaaaGreatDoorHandC
namespace Go.Proofs.YtocjbedacnlaaaaGreatDoor.Q
open Go.RowKit Go.Proofs.YtocjbedacnlaaaaGreatDoorW.PrintWords Go.Proofs.YtocjbedacnlaaaaGreatDoorW.PrintLast Go.Proofs.YtocjbedacnlaaaaGreatDoorW.PrintMore
attribute [local go_sem] max2_int min2_int max_two min_two max_three min_three max_four min_four   -- for this text's walks alone
set_option linter.unusedVariables false
set_option linter.unusedSimpArgs false

/-! ### beam_Groups: function 13 -/
/-- Are a voice's values and numbers such as beams need? -/
def okL (l : List S41) (bs ss : List S72) : Bool := decide (l.length ≤ 1000000) && decide (ss.length = l.length) && decide (bs.length ≤ 1000000) && l.all (fun e => decide (0 ≤ e.f3.f0) && decide (e.f3.f0 ≤ 6))
theorem okL_of {l : List S41} {bs ss : List S72} (h : okL l bs ss = true) : l.length ≤ 1000000 ∧ ss.length = l.length ∧ bs.length ≤ 1000000 ∧ ∀ i, i < l.length → 0 ≤ (l.getD i z41).f3.f0 ∧ (l.getD i z41).f3.f0 ≤ 6 := by
  unfold okL at h
  simp only [Bool.and_eq_true, decide_eq_true_eq, List.all_eq_true] at h
  obtain ⟨⟨⟨h1, h2⟩, h3⟩, h4⟩ := h
  refine ⟨h1, h2, h3, fun i hi => ?_⟩
  rw [show l.getD i z41 = l[i] from by simp [hi]]
  exact h4 _ (List.getElem_mem hi)
/-- A voice's beams. -/
def beam_Groups.f (k : Nat) (a0_0 : Int) (a0_1 : Int) (l0_2 : List Int) (l1_0 : List S41) : Option ((List S49) × Int) :=
  (meter_Beats.f k a0_0 a0_1 l0_2).bind fun B => (voice_Starts.f k l1_0).bind fun S => if B.2 ≠ 0 then some ([], B.2) else if S.2 ≠ 0 then some ([], S.2) else
    (voice_Length.f k l1_0).bind fun L => (meter_Length.f k a0_0 a0_1 l0_2).bind fun M => if 0 < cmpI L.1 L.2.1 M.1 M.2.1 then some ([], 230) else if okL l1_0 B.1 S.1 = true then some ((grpL l1_0 B.1 S.1).map (beamS l1_0), 0) else none
theorem beam_Groups.mono : ∀ a0 a1 a2 a3 k, LeO (beam_Groups.f k a0 a1 a2 a3) (beam_Groups.f (k + 1) a0 a1 a2 a3) := by
  intro a0 a1 a2 a3 k r h
  unfold beam_Groups.f at h ⊢
  obtain ⟨B, hB, h⟩ := Option.bind_eq_some_iff.mp h
  rw [meter_Beats.mono _ _ _ _ _ hB, Option.bind_some]
  obtain ⟨S, hS, h⟩ := Option.bind_eq_some_iff.mp h
  rw [voice_Starts.mono _ _ _ hS, Option.bind_some]
  split at h
  · rename_i c; rw [if_pos c]; exact h
  rename_i c; rw [if_neg c]
  split at h
  · rename_i c; rw [if_pos c]; exact h
  rename_i c; rw [if_neg c]
  obtain ⟨L, hL, h⟩ := Option.bind_eq_some_iff.mp h
  rw [voice_Length.mono _ _ _ hL, Option.bind_some]
  obtain ⟨M, hM, h⟩ := Option.bind_eq_some_iff.mp h
  rw [meter_Length.mono _ _ _ _ _ hM, Option.bind_some]
  exact h
theorem beam_Groups.calls (k : Nat) (a0_0 : Int) (a0_1 : Int) (A0_2 : Option Addr) (c0_2 : Nat) (l0_2 : List Int) (A1_0 : Option Addr) (c1_0 : Nat) (l1_0 : List S41) (r1 : List (S49)) (r2 : Int) (w : World) (hr0_2 : Kd.C (Kd.int .i64) w A0_2 l0_2.length l0_2) (hc0_2 : l0_2.length ≤ c0_2) (hr1_0 : Kd.C k41 w A1_0 l1_0.length l1_0) (hc1_0 : l1_0.length ≤ c1_0) (h : beam_Groups.f k a0_0 a0_1 l0_2 l1_0 = some (r1, r2)) (SENTS : Aside0 (SentsE w) := by exact sents_step (by assumption) (by repeat (first | (with_reducible first | exact (by assumption : Aside0 (Below _ _ _)).out | apply below_alloc | apply pw_below_drewN | apply below_drew1 | refine below_set ?_ (Aside0.out (by assumption)))))) :
 Calls Tryz.prog 13 #[.agg #[.int .i64 a0_0, .int .i64 a0_1, .slice A0_2 l0_2.length c0_2], .agg #[.slice A1_0 l1_0.length c1_0]] w fun e w' => ∃ v0_ : Value, e = .returned (.tuple #[v0_, .int .i64 r2]) ∧ Kd.S k49 49 w' w.heap.size (fun _ => True) v0_ r1 ∧ Below w.heap.size w w' := by
  unfold beam_Groups.f at h
  obtain ⟨⟨bs, e1⟩, hB, h⟩ := Option.bind_eq_some_iff.mp h
  obtain ⟨⟨ss, e2⟩, hS, h⟩ := Option.bind_eq_some_iff.mp h
  have HB := fun W (hb : Below w.heap.size w W) => meter_Beats.calls k a0_0 a0_1 A0_2 c0_2 l0_2 bs e1 W (Kd.C_below hr0_2 hb) hc0_2 hB
  have HS := fun W (hb : Below w.heap.size w W) => voice_Starts.calls k A1_0 c1_0 l1_0 ss e2 W (Kd.C_below hr1_0 hb) hc1_0 hS ⟨SENTS.out.below hb⟩
  split at h
  · rename_i c
    simp only [Option.some.injEq, Prod.mk.injEq] at h
    obtain ⟨rfl, rfl⟩ := h
    exact groups_err a0_0 a0_1 A0_2 c0_2 _ A1_0 c1_0 _ e1 w SENTS.out (fun W hb => of_1 a0_0 a0_1 A0_2 c0_2 _ A1_0 c1_0 l1_0 bs ss e1 e2 0 0 0 0 0 0 0 W (Kd.C_below hr1_0 hb) (fun W2 hb2 => HB W2 (hb.trans (hb2.mono hb.size))) (fun W2 hb2 => HS W2 (hb.trans (hb2.mono hb.size))) c)
  · rename_i c
    obtain rfl : e1 = 0 := Decidable.not_not.1 c
    split at h
    · rename_i c2
      simp only [Option.some.injEq, Prod.mk.injEq] at h
      obtain ⟨rfl, rfl⟩ := h
      exact groups_err a0_0 a0_1 A0_2 c0_2 _ A1_0 c1_0 _ e2 w SENTS.out (fun W hb => of_2 a0_0 a0_1 A0_2 c0_2 _ A1_0 c1_0 l1_0 bs ss e2 0 0 0 0 0 0 0 W (Kd.C_below hr1_0 hb) (fun W2 hb2 => HB W2 (hb.trans (hb2.mono hb.size))) (fun W2 hb2 => HS W2 (hb.trans (hb2.mono hb.size))) c2)
    · rename_i c2
      obtain rfl : e2 = 0 := Decidable.not_not.1 c2
      obtain ⟨⟨t1, t2, t3⟩, hL, h⟩ := Option.bind_eq_some_iff.mp h
      obtain ⟨⟨m1, m2, m3⟩, hM, h⟩ := Option.bind_eq_some_iff.mp h
      have HL := fun W (hb : Below w.heap.size w W) => voice_Length.calls k A1_0 c1_0 l1_0 t1 t2 t3 W (Kd.C_below hr1_0 hb) hc1_0 hL ⟨SENTS.out.below hb⟩
      have HM := fun W (hb : Below w.heap.size w W) => meter_Length.calls k a0_0 a0_1 A0_2 c0_2 l0_2 m1 m2 m3 W (Kd.C_below hr0_2 hb) hc0_2 hM
      dsimp only at h
      split at h
      · rename_i c3
        simp only [Option.some.injEq, Prod.mk.injEq] at h
        obtain ⟨rfl, rfl⟩ := h
        exact groups_err a0_0 a0_1 A0_2 c0_2 _ A1_0 c1_0 _ 230 w SENTS.out (fun W hb => of_3 a0_0 a0_1 A0_2 c0_2 _ A1_0 c1_0 l1_0 bs ss t1 t2 t3 m1 m2 m3 _ W (Kd.C_below hr1_0 hb) (fun W2 hb2 => HB W2 (hb.trans (hb2.mono hb.size))) (fun W2 hb2 => HS W2 (hb.trans (hb2.mono hb.size))) (fun W2 hb2 => HL W2 (hb.trans (hb2.mono hb.size))) (fun W2 hb2 => HM W2 (hb.trans (hb2.mono hb.size))) (fun W2 => ratio_Compare.calls t1 t2 m1 m2 _ W2 rfl) c3)
      · rename_i c3
        split at h
        case isFalse => cases h
        rename_i c4
        obtain ⟨g1, g2, g3, g4⟩ := okL_of c4
        simp only [Option.some.injEq, Prod.mk.injEq] at h
        obtain ⟨rfl, rfl⟩ := h
        exact groups_ok_ a0_0 a0_1 A0_2 c0_2 _ A1_0 c1_0 l1_0 bs ss w (fun W hb => of_4 a0_0 a0_1 A0_2 c0_2 _ A1_0 c1_0 l1_0 bs ss t1 t2 t3 m1 m2 m3 _ W (Kd.C_below hr1_0 hb) (fun W2 hb2 => HB W2 (hb.trans (hb2.mono hb.size))) (fun W2 hb2 => HS W2 (hb.trans (hb2.mono hb.size))) (fun W2 hb2 => HL W2 (hb.trans (hb2.mono hb.size))) (fun W2 hb2 => HM W2 (hb.trans (hb2.mono hb.size))) (fun W2 => ratio_Compare.calls t1 t2 m1 m2 _ W2 rfl) c3) g1 g2 g3 g4

end Go.Proofs.YtocjbedacnlaaaaGreatDoor.Q
