-- Written by a program of this session (myprint.py), function by function.
import Derived.Test.YtchjlkokfgmjaaaQ0
import Derived.Test.YtchjlkokfgmjaaaQ6
import Derived.Test.YtchjlkokfgmjaaaQ7
namespace Go.Proofs.Ytchjlkokfgmjaaa.Q
open Go.RowKit Go.Proofs.YtchjlkokfgmjaaaW.PrintWords Go.Proofs.YtchjlkokfgmjaaaW.PrintLast Go.Proofs.YtchjlkokfgmjaaaW.PrintMore
attribute [local go_sem] max2_int min2_int max_two min_two max_three min_three max_four min_four   -- for this text's walks alone
set_option linter.unusedVariables false
set_option linter.unusedSimpArgs false

/-! ### partitalaw11_TempoMiddle: function 5 -/
def partitalaw11_TempoMiddle.j0 : Nat → Bool → Int → Int → Int → Int → Int → Int → Int → Int → Bool → Option (Bool)
  | 0, _, _, _, _, _, _, _, _, _, _ => none
  | k + 1, x11, x12, x13, x14, x18, x19, x26, x28, x30, x125 => if x125 = true then none else (if x26 < (mn x12 x13) then none else (if x26 > (mx x12 x13) then none else (if x12 ≤ x13 then (if x26 > x28 then none else (if x12 ≥ x13 then (if x26 < x28 then none else (if x18 = 0 then (if x26 = x12 then (if x11 = true then (if (wrap64 ((wrap64 (x30 * 96)) - (wrap64 ((wrap64 (2 * x18)) * (wrap64 (x12 + x26)))))) ≤ (wrap64 (2 * x18)) then (if (wrap64 ((wrap64 (x30 * 96)) - (wrap64 ((wrap64 (2 * x18)) * (wrap64 (x12 + x26)))))) ≥ (-96) then (if x19 < x14 then (some true) else (some (x28 == x13))) else none) else none) else none) else none) else (if x11 = true then (if (wrap64 ((wrap64 (x30 * 96)) - (wrap64 ((wrap64 (2 * x18)) * (wrap64 (x12 + x26)))))) ≤ (wrap64 (2 * x18)) then (if (wrap64 ((wrap64 (x30 * 96)) - (wrap64 ((wrap64 (2 * x18)) * (wrap64 (x12 + x26)))))) ≥ (-96) then (if x19 < x14 then (some true) else (some (x28 == x13))) else none) else none) else none))) else (if x18 = 0 then (if x26 = x12 then (if x11 = true then (if (wrap64 ((wrap64 (x30 * 96)) - (wrap64 ((wrap64 (2 * x18)) * (wrap64 (x12 + x26)))))) ≤ (wrap64 (2 * x18)) then (if (wrap64 ((wrap64 (x30 * 96)) - (wrap64 ((wrap64 (2 * x18)) * (wrap64 (x12 + x26)))))) ≥ (-96) then (if x19 < x14 then (some true) else (some (x28 == x13))) else none) else none) else none) else none) else (if x11 = true then (if (wrap64 ((wrap64 (x30 * 96)) - (wrap64 ((wrap64 (2 * x18)) * (wrap64 (x12 + x26)))))) ≤ (wrap64 (2 * x18)) then (if (wrap64 ((wrap64 (x30 * 96)) - (wrap64 ((wrap64 (2 * x18)) * (wrap64 (x12 + x26)))))) ≥ (-96) then (if x19 < x14 then (some true) else (some (x28 == x13))) else none) else none) else none)))) else (if x12 ≥ x13 then (if x26 < x28 then none else (if x18 = 0 then (if x26 = x12 then (if x11 = true then (if (wrap64 ((wrap64 (x30 * 96)) - (wrap64 ((wrap64 (2 * x18)) * (wrap64 (x12 + x26)))))) ≤ (wrap64 (2 * x18)) then (if (wrap64 ((wrap64 (x30 * 96)) - (wrap64 ((wrap64 (2 * x18)) * (wrap64 (x12 + x26)))))) ≥ (-96) then (if x19 < x14 then (some true) else (some (x28 == x13))) else none) else none) else none) else none) else (if x11 = true then (if (wrap64 ((wrap64 (x30 * 96)) - (wrap64 ((wrap64 (2 * x18)) * (wrap64 (x12 + x26)))))) ≤ (wrap64 (2 * x18)) then (if (wrap64 ((wrap64 (x30 * 96)) - (wrap64 ((wrap64 (2 * x18)) * (wrap64 (x12 + x26)))))) ≥ (-96) then (if x19 < x14 then (some true) else (some (x28 == x13))) else none) else none) else none))) else (if x18 = 0 then (if x26 = x12 then (if x11 = true then (if (wrap64 ((wrap64 (x30 * 96)) - (wrap64 ((wrap64 (2 * x18)) * (wrap64 (x12 + x26)))))) ≤ (wrap64 (2 * x18)) then (if (wrap64 ((wrap64 (x30 * 96)) - (wrap64 ((wrap64 (2 * x18)) * (wrap64 (x12 + x26)))))) ≥ (-96) then (if x19 < x14 then (some true) else (some (x28 == x13))) else none) else none) else none) else none) else (if x11 = true then (if (wrap64 ((wrap64 (x30 * 96)) - (wrap64 ((wrap64 (2 * x18)) * (wrap64 (x12 + x26)))))) ≤ (wrap64 (2 * x18)) then (if (wrap64 ((wrap64 (x30 * 96)) - (wrap64 ((wrap64 (2 * x18)) * (wrap64 (x12 + x26)))))) ≥ (-96) then (if x19 < x14 then (some true) else (some (x28 == x13))) else none) else none) else none))))))
def partitalaw11_TempoMiddle.f (k : Nat) (a0 : Int) (a1 : Int) (a2 : Int) (a3 : Int) (a4 : Int) : Option (Bool) := (partitalaw11_awake.f k).bind fun t186 => ((partitalaw11_pick.f a0 3900001).bind fun t187 => ((partitalaw11_pick.f a1 3900001).bind fun t188 => ((partitalaw11_pick.f a2 960).bind fun t189 => ((partitaref01_Of.f k (wrap64 (1 + t189)) 96).bind fun bt190 => ((some (([(⟨(⟨0, 1⟩ : S27), wrap64 (100000 + t187), true⟩ : S36), (⟨(⟨bt190.1, bt190.2.1⟩ : S27), wrap64 (100000 + t188), false⟩ : S36)] : List (S36)) : List (S36))).bind fun y194 => ((partitalaw11_pick.f a3 (wrap64 ((wrap64 (1 + t189)) + 1))).bind fun t197 => ((partitalaw11_pick.f a4 (wrap64 ((wrap64 ((wrap64 (1 + t189)) + 1)) - t197))).bind fun t198 => ((partitaref01_Of.f k t197 96).bind fun bt199 => ((partitaref01_Of.f k (wrap64 (t197 + t198)) 96).bind fun bt203 => ((tempo_Micros.f k y194 bt190.1 bt190.2.1).bind fun bt207 => ((tempo_Rate.f k y194 bt199.1 bt199.2.1).bind fun bt209 => ((tempo_Rate.f k y194 bt203.1 bt203.2.1).bind fun bt211 => ((tempo_Micros.f k y194 bt199.1 bt199.2.1).bind fun bt213 => (if bt207.2 = 0 then (if bt209.2 = 0 then (if bt211.2 = 0 then (if bt213.2 = 0 then (partitalaw11_TempoMiddle.j0 k t186 (wrap64 (100000 + t187)) (wrap64 (100000 + t188)) (wrap64 (1 + t189)) t197 (wrap64 (t197 + t198)) bt209.1 bt211.1 bt213.1 (bt207.1 != (wrap64 (Int.tdiv (wrap64 ((wrap64 (2 * (wrap64 ((wrap64 (100000 + t187)) + (wrap64 (100000 + t188)))))) * (wrap64 (1 + t189)))) 96)))) else (partitalaw11_TempoMiddle.j0 k t186 (wrap64 (100000 + t187)) (wrap64 (100000 + t188)) (wrap64 (1 + t189)) t197 (wrap64 (t197 + t198)) bt209.1 bt211.1 bt213.1 true)) else (partitalaw11_TempoMiddle.j0 k t186 (wrap64 (100000 + t187)) (wrap64 (100000 + t188)) (wrap64 (1 + t189)) t197 (wrap64 (t197 + t198)) bt209.1 bt211.1 bt213.1 true)) else (partitalaw11_TempoMiddle.j0 k t186 (wrap64 (100000 + t187)) (wrap64 (100000 + t188)) (wrap64 (1 + t189)) t197 (wrap64 (t197 + t198)) bt209.1 bt211.1 bt213.1 true)) else (partitalaw11_TempoMiddle.j0 k t186 (wrap64 (100000 + t187)) (wrap64 (100000 + t188)) (wrap64 (1 + t189)) t197 (wrap64 (t197 + t198)) bt209.1 bt211.1 bt213.1 true)))))))))))))))
theorem partitalaw11_TempoMiddle.mono_l : ∀ k, (∀ y0 y1 y2 y3 y4 y5 y6 y7 y8 y9, LeO (partitalaw11_TempoMiddle.j0 k y0 y1 y2 y3 y4 y5 y6 y7 y8 y9) (partitalaw11_TempoMiddle.j0 (k + 1) y0 y1 y2 y3 y4 y5 y6 y7 y8 y9))
  | 0 => fun _ _ _ _ _ _ _ _ _ _ r h => by simp [partitalaw11_TempoMiddle.j0] at h
  | k + 1 => by
    have ih0 := partitalaw11_TempoMiddle.mono_l k
    · intro y0 y1 y2 y3 y4 y5 y6 y7 y8 y9
      unfold partitalaw11_TempoMiddle.j0
      repeat' first
      | (with_reducible exact ih0 _ _ _ _ _ _ _ _ _ _)
      | (with_reducible exact partitalaw11_awake.mono _)
      | (with_reducible exact partitaref01_Of.mono _ _ _)
      | (with_reducible exact tempo_Micros.mono _ _ _ _)
      | (with_reducible exact tempo_Rate.mono _ _ _ _)
      | (with_reducible exact LeO.refl _)
      | (with_reducible exact LeO.none _)
      | (with_reducible refine LeO.ite ?_ ?_)
      | (with_reducible refine LeO.bind ?_ (fun _ => ?_))
      | exact ih0 _ _ _ _ _ _ _ _ _ _
      | exact partitalaw11_awake.mono _
      | exact partitaref01_Of.mono _ _ _
      | exact tempo_Micros.mono _ _ _ _
      | exact tempo_Rate.mono _ _ _ _
      | exact LeO.none _
      | refine LeO.ite ?_ ?_
      | refine LeO.bind ?_ (fun _ => ?_)
theorem partitalaw11_TempoMiddle.mono : ∀ a0 a1 a2 a3 a4 k, LeO (partitalaw11_TempoMiddle.f k a0 a1 a2 a3 a4) (partitalaw11_TempoMiddle.f (k + 1) a0 a1 a2 a3 a4) := by
  intro a0 a1 a2 a3 a4 k
  have ih0 := partitalaw11_TempoMiddle.mono_l k
  unfold partitalaw11_TempoMiddle.f
  repeat' first
      | (with_reducible exact ih0 _ _ _ _ _ _ _ _ _ _)
      | (with_reducible exact partitalaw11_awake.mono _)
      | (with_reducible exact partitaref01_Of.mono _ _ _)
      | (with_reducible exact tempo_Micros.mono _ _ _ _)
      | (with_reducible exact tempo_Rate.mono _ _ _ _)
      | (with_reducible exact LeO.refl _)
      | (with_reducible exact LeO.none _)
      | (with_reducible refine LeO.ite ?_ ?_)
      | (with_reducible refine LeO.bind ?_ (fun _ => ?_))
      | exact ih0 _ _ _ _ _ _ _ _ _ _
      | exact partitalaw11_awake.mono _
      | exact partitaref01_Of.mono _ _ _
      | exact tempo_Micros.mono _ _ _ _
      | exact tempo_Rate.mono _ _ _ _
      | exact LeO.none _
      | refine LeO.ite ?_ ?_
      | refine LeO.bind ?_ (fun _ => ?_)
set_option maxHeartbeats 8000000 in
set_option maxRecDepth 100000 in
theorem partitalaw11_TempoMiddle.calls (k : Nat) (a0 : Int) (a1 : Int) (a2 : Int) (a3 : Int) (a4 : Int) (r : Bool) (w : World) (h : partitalaw11_TempoMiddle.f k a0 a1 a2 a3 a4 = some r) :
    Calls Try.prog 5 #[.int .i64 a0, .int .i64 a1, .int .i64 a2, .int .i64 a3, .int .i64 a4] w fun e w' => e = .returned (.bool r) ∧ Below w.heap.size w w' := by
  have hu27 := Try.underlying27
  have hu36 := Try.underlying36
  have HB := Aside0.mk (Below.refl w.heap.size w)
  have H : ((partitalaw11_awake.f k).bind fun t186 => ((partitalaw11_pick.f a0 3900001).bind fun t187 => ((partitalaw11_pick.f a1 3900001).bind fun t188 => ((partitalaw11_pick.f a2 960).bind fun t189 => ((partitaref01_Of.f k (wrap64 (1 + t189)) 96).bind fun bt190 => ((some (([(⟨(⟨0, 1⟩ : S27), wrap64 (100000 + t187), true⟩ : S36), (⟨(⟨bt190.1, bt190.2.1⟩ : S27), wrap64 (100000 + t188), false⟩ : S36)] : List (S36)) : List (S36))).bind fun y194 => ((partitalaw11_pick.f a3 (wrap64 ((wrap64 (1 + t189)) + 1))).bind fun t197 => ((partitalaw11_pick.f a4 (wrap64 ((wrap64 ((wrap64 (1 + t189)) + 1)) - t197))).bind fun t198 => ((partitaref01_Of.f k t197 96).bind fun bt199 => ((partitaref01_Of.f k (wrap64 (t197 + t198)) 96).bind fun bt203 => ((tempo_Micros.f k y194 bt190.1 bt190.2.1).bind fun bt207 => ((tempo_Rate.f k y194 bt199.1 bt199.2.1).bind fun bt209 => ((tempo_Rate.f k y194 bt203.1 bt203.2.1).bind fun bt211 => ((tempo_Micros.f k y194 bt199.1 bt199.2.1).bind fun bt213 => (if bt207.2 = 0 then (if bt209.2 = 0 then (if bt211.2 = 0 then (if bt213.2 = 0 then (partitalaw11_TempoMiddle.j0 k t186 (wrap64 (100000 + t187)) (wrap64 (100000 + t188)) (wrap64 (1 + t189)) t197 (wrap64 (t197 + t198)) bt209.1 bt211.1 bt213.1 (bt207.1 != (wrap64 (Int.tdiv (wrap64 ((wrap64 (2 * (wrap64 ((wrap64 (100000 + t187)) + (wrap64 (100000 + t188)))))) * (wrap64 (1 + t189)))) 96)))) else (partitalaw11_TempoMiddle.j0 k t186 (wrap64 (100000 + t187)) (wrap64 (100000 + t188)) (wrap64 (1 + t189)) t197 (wrap64 (t197 + t198)) bt209.1 bt211.1 bt213.1 true)) else (partitalaw11_TempoMiddle.j0 k t186 (wrap64 (100000 + t187)) (wrap64 (100000 + t188)) (wrap64 (1 + t189)) t197 (wrap64 (t197 + t198)) bt209.1 bt211.1 bt213.1 true)) else (partitalaw11_TempoMiddle.j0 k t186 (wrap64 (100000 + t187)) (wrap64 (100000 + t188)) (wrap64 (1 + t189)) t197 (wrap64 (t197 + t198)) bt209.1 bt211.1 bt213.1 true)) else (partitalaw11_TempoMiddle.j0 k t186 (wrap64 (100000 + t187)) (wrap64 (100000 + t188)) (wrap64 (1 + t189)) t197 (wrap64 (t197 + t198)) bt209.1 bt211.1 bt213.1 true)))))))))))))))) = some r := h
  clear h
  replace H := Option.bind_eq_some_iff.mp H
  obtain ⟨t186, A60, H⟩ := H
  replace H : ((partitalaw11_pick.f a0 3900001).bind fun t187 => ((partitalaw11_pick.f a1 3900001).bind fun t188 => ((partitalaw11_pick.f a2 960).bind fun t189 => ((partitaref01_Of.f k (wrap64 (1 + t189)) 96).bind fun bt190 => ((some (([(⟨(⟨0, 1⟩ : S27), wrap64 (100000 + t187), true⟩ : S36), (⟨(⟨bt190.1, bt190.2.1⟩ : S27), wrap64 (100000 + t188), false⟩ : S36)] : List (S36)) : List (S36))).bind fun y194 => ((partitalaw11_pick.f a3 (wrap64 ((wrap64 (1 + t189)) + 1))).bind fun t197 => ((partitalaw11_pick.f a4 (wrap64 ((wrap64 ((wrap64 (1 + t189)) + 1)) - t197))).bind fun t198 => ((partitaref01_Of.f k t197 96).bind fun bt199 => ((partitaref01_Of.f k (wrap64 (t197 + t198)) 96).bind fun bt203 => ((tempo_Micros.f k y194 bt190.1 bt190.2.1).bind fun bt207 => ((tempo_Rate.f k y194 bt199.1 bt199.2.1).bind fun bt209 => ((tempo_Rate.f k y194 bt203.1 bt203.2.1).bind fun bt211 => ((tempo_Micros.f k y194 bt199.1 bt199.2.1).bind fun bt213 => (if bt207.2 = 0 then (if bt209.2 = 0 then (if bt211.2 = 0 then (if bt213.2 = 0 then (partitalaw11_TempoMiddle.j0 k t186 (wrap64 (100000 + t187)) (wrap64 (100000 + t188)) (wrap64 (1 + t189)) t197 (wrap64 (t197 + t198)) bt209.1 bt211.1 bt213.1 (bt207.1 != (wrap64 (Int.tdiv (wrap64 ((wrap64 (2 * (wrap64 ((wrap64 (100000 + t187)) + (wrap64 (100000 + t188)))))) * (wrap64 (1 + t189)))) 96)))) else (partitalaw11_TempoMiddle.j0 k t186 (wrap64 (100000 + t187)) (wrap64 (100000 + t188)) (wrap64 (1 + t189)) t197 (wrap64 (t197 + t198)) bt209.1 bt211.1 bt213.1 true)) else (partitalaw11_TempoMiddle.j0 k t186 (wrap64 (100000 + t187)) (wrap64 (100000 + t188)) (wrap64 (1 + t189)) t197 (wrap64 (t197 + t198)) bt209.1 bt211.1 bt213.1 true)) else (partitalaw11_TempoMiddle.j0 k t186 (wrap64 (100000 + t187)) (wrap64 (100000 + t188)) (wrap64 (1 + t189)) t197 (wrap64 (t197 + t198)) bt209.1 bt211.1 bt213.1 true)) else (partitalaw11_TempoMiddle.j0 k t186 (wrap64 (100000 + t187)) (wrap64 (100000 + t188)) (wrap64 (1 + t189)) t197 (wrap64 (t197 + t198)) bt209.1 bt211.1 bt213.1 true))))))))))))))) = some r := H
  have A6 := Aside0.mk A60
  clear A60
  replace H := Option.bind_eq_some_iff.mp H
  obtain ⟨t187, A70, H⟩ := H
  replace H : ((partitalaw11_pick.f a1 3900001).bind fun t188 => ((partitalaw11_pick.f a2 960).bind fun t189 => ((partitaref01_Of.f k (wrap64 (1 + t189)) 96).bind fun bt190 => ((some (([(⟨(⟨0, 1⟩ : S27), wrap64 (100000 + t187), true⟩ : S36), (⟨(⟨bt190.1, bt190.2.1⟩ : S27), wrap64 (100000 + t188), false⟩ : S36)] : List (S36)) : List (S36))).bind fun y194 => ((partitalaw11_pick.f a3 (wrap64 ((wrap64 (1 + t189)) + 1))).bind fun t197 => ((partitalaw11_pick.f a4 (wrap64 ((wrap64 ((wrap64 (1 + t189)) + 1)) - t197))).bind fun t198 => ((partitaref01_Of.f k t197 96).bind fun bt199 => ((partitaref01_Of.f k (wrap64 (t197 + t198)) 96).bind fun bt203 => ((tempo_Micros.f k y194 bt190.1 bt190.2.1).bind fun bt207 => ((tempo_Rate.f k y194 bt199.1 bt199.2.1).bind fun bt209 => ((tempo_Rate.f k y194 bt203.1 bt203.2.1).bind fun bt211 => ((tempo_Micros.f k y194 bt199.1 bt199.2.1).bind fun bt213 => (if bt207.2 = 0 then (if bt209.2 = 0 then (if bt211.2 = 0 then (if bt213.2 = 0 then (partitalaw11_TempoMiddle.j0 k t186 (wrap64 (100000 + t187)) (wrap64 (100000 + t188)) (wrap64 (1 + t189)) t197 (wrap64 (t197 + t198)) bt209.1 bt211.1 bt213.1 (bt207.1 != (wrap64 (Int.tdiv (wrap64 ((wrap64 (2 * (wrap64 ((wrap64 (100000 + t187)) + (wrap64 (100000 + t188)))))) * (wrap64 (1 + t189)))) 96)))) else (partitalaw11_TempoMiddle.j0 k t186 (wrap64 (100000 + t187)) (wrap64 (100000 + t188)) (wrap64 (1 + t189)) t197 (wrap64 (t197 + t198)) bt209.1 bt211.1 bt213.1 true)) else (partitalaw11_TempoMiddle.j0 k t186 (wrap64 (100000 + t187)) (wrap64 (100000 + t188)) (wrap64 (1 + t189)) t197 (wrap64 (t197 + t198)) bt209.1 bt211.1 bt213.1 true)) else (partitalaw11_TempoMiddle.j0 k t186 (wrap64 (100000 + t187)) (wrap64 (100000 + t188)) (wrap64 (1 + t189)) t197 (wrap64 (t197 + t198)) bt209.1 bt211.1 bt213.1 true)) else (partitalaw11_TempoMiddle.j0 k t186 (wrap64 (100000 + t187)) (wrap64 (100000 + t188)) (wrap64 (1 + t189)) t197 (wrap64 (t197 + t198)) bt209.1 bt211.1 bt213.1 true)))))))))))))) = some r := H
  have A7 := Aside0.mk A70
  clear A70
  replace H := Option.bind_eq_some_iff.mp H
  obtain ⟨t188, A80, H⟩ := H
  replace H : ((partitalaw11_pick.f a2 960).bind fun t189 => ((partitaref01_Of.f k (wrap64 (1 + t189)) 96).bind fun bt190 => ((some (([(⟨(⟨0, 1⟩ : S27), wrap64 (100000 + t187), true⟩ : S36), (⟨(⟨bt190.1, bt190.2.1⟩ : S27), wrap64 (100000 + t188), false⟩ : S36)] : List (S36)) : List (S36))).bind fun y194 => ((partitalaw11_pick.f a3 (wrap64 ((wrap64 (1 + t189)) + 1))).bind fun t197 => ((partitalaw11_pick.f a4 (wrap64 ((wrap64 ((wrap64 (1 + t189)) + 1)) - t197))).bind fun t198 => ((partitaref01_Of.f k t197 96).bind fun bt199 => ((partitaref01_Of.f k (wrap64 (t197 + t198)) 96).bind fun bt203 => ((tempo_Micros.f k y194 bt190.1 bt190.2.1).bind fun bt207 => ((tempo_Rate.f k y194 bt199.1 bt199.2.1).bind fun bt209 => ((tempo_Rate.f k y194 bt203.1 bt203.2.1).bind fun bt211 => ((tempo_Micros.f k y194 bt199.1 bt199.2.1).bind fun bt213 => (if bt207.2 = 0 then (if bt209.2 = 0 then (if bt211.2 = 0 then (if bt213.2 = 0 then (partitalaw11_TempoMiddle.j0 k t186 (wrap64 (100000 + t187)) (wrap64 (100000 + t188)) (wrap64 (1 + t189)) t197 (wrap64 (t197 + t198)) bt209.1 bt211.1 bt213.1 (bt207.1 != (wrap64 (Int.tdiv (wrap64 ((wrap64 (2 * (wrap64 ((wrap64 (100000 + t187)) + (wrap64 (100000 + t188)))))) * (wrap64 (1 + t189)))) 96)))) else (partitalaw11_TempoMiddle.j0 k t186 (wrap64 (100000 + t187)) (wrap64 (100000 + t188)) (wrap64 (1 + t189)) t197 (wrap64 (t197 + t198)) bt209.1 bt211.1 bt213.1 true)) else (partitalaw11_TempoMiddle.j0 k t186 (wrap64 (100000 + t187)) (wrap64 (100000 + t188)) (wrap64 (1 + t189)) t197 (wrap64 (t197 + t198)) bt209.1 bt211.1 bt213.1 true)) else (partitalaw11_TempoMiddle.j0 k t186 (wrap64 (100000 + t187)) (wrap64 (100000 + t188)) (wrap64 (1 + t189)) t197 (wrap64 (t197 + t198)) bt209.1 bt211.1 bt213.1 true)) else (partitalaw11_TempoMiddle.j0 k t186 (wrap64 (100000 + t187)) (wrap64 (100000 + t188)) (wrap64 (1 + t189)) t197 (wrap64 (t197 + t198)) bt209.1 bt211.1 bt213.1 true))))))))))))) = some r := H
  have A8 := Aside0.mk A80
  clear A80
  replace H := Option.bind_eq_some_iff.mp H
  obtain ⟨t189, A90, H⟩ := H
  replace H : ((partitaref01_Of.f k (wrap64 (1 + t189)) 96).bind fun bt190 => ((some (([(⟨(⟨0, 1⟩ : S27), wrap64 (100000 + t187), true⟩ : S36), (⟨(⟨bt190.1, bt190.2.1⟩ : S27), wrap64 (100000 + t188), false⟩ : S36)] : List (S36)) : List (S36))).bind fun y194 => ((partitalaw11_pick.f a3 (wrap64 ((wrap64 (1 + t189)) + 1))).bind fun t197 => ((partitalaw11_pick.f a4 (wrap64 ((wrap64 ((wrap64 (1 + t189)) + 1)) - t197))).bind fun t198 => ((partitaref01_Of.f k t197 96).bind fun bt199 => ((partitaref01_Of.f k (wrap64 (t197 + t198)) 96).bind fun bt203 => ((tempo_Micros.f k y194 bt190.1 bt190.2.1).bind fun bt207 => ((tempo_Rate.f k y194 bt199.1 bt199.2.1).bind fun bt209 => ((tempo_Rate.f k y194 bt203.1 bt203.2.1).bind fun bt211 => ((tempo_Micros.f k y194 bt199.1 bt199.2.1).bind fun bt213 => (if bt207.2 = 0 then (if bt209.2 = 0 then (if bt211.2 = 0 then (if bt213.2 = 0 then (partitalaw11_TempoMiddle.j0 k t186 (wrap64 (100000 + t187)) (wrap64 (100000 + t188)) (wrap64 (1 + t189)) t197 (wrap64 (t197 + t198)) bt209.1 bt211.1 bt213.1 (bt207.1 != (wrap64 (Int.tdiv (wrap64 ((wrap64 (2 * (wrap64 ((wrap64 (100000 + t187)) + (wrap64 (100000 + t188)))))) * (wrap64 (1 + t189)))) 96)))) else (partitalaw11_TempoMiddle.j0 k t186 (wrap64 (100000 + t187)) (wrap64 (100000 + t188)) (wrap64 (1 + t189)) t197 (wrap64 (t197 + t198)) bt209.1 bt211.1 bt213.1 true)) else (partitalaw11_TempoMiddle.j0 k t186 (wrap64 (100000 + t187)) (wrap64 (100000 + t188)) (wrap64 (1 + t189)) t197 (wrap64 (t197 + t198)) bt209.1 bt211.1 bt213.1 true)) else (partitalaw11_TempoMiddle.j0 k t186 (wrap64 (100000 + t187)) (wrap64 (100000 + t188)) (wrap64 (1 + t189)) t197 (wrap64 (t197 + t198)) bt209.1 bt211.1 bt213.1 true)) else (partitalaw11_TempoMiddle.j0 k t186 (wrap64 (100000 + t187)) (wrap64 (100000 + t188)) (wrap64 (1 + t189)) t197 (wrap64 (t197 + t198)) bt209.1 bt211.1 bt213.1 true)))))))))))) = some r := H
  have A9 := Aside0.mk A90
  clear A90
  replace H := Option.bind_eq_some_iff.mp H
  obtain ⟨⟨t190, t191, t192⟩, A100, H⟩ := H
  replace H : ((some (([(⟨(⟨0, 1⟩ : S27), wrap64 (100000 + t187), true⟩ : S36), (⟨(⟨t190, t191⟩ : S27), wrap64 (100000 + t188), false⟩ : S36)] : List (S36)) : List (S36))).bind fun y194 => ((partitalaw11_pick.f a3 (wrap64 ((wrap64 (1 + t189)) + 1))).bind fun t197 => ((partitalaw11_pick.f a4 (wrap64 ((wrap64 ((wrap64 (1 + t189)) + 1)) - t197))).bind fun t198 => ((partitaref01_Of.f k t197 96).bind fun bt199 => ((partitaref01_Of.f k (wrap64 (t197 + t198)) 96).bind fun bt203 => ((tempo_Micros.f k y194 t190 t191).bind fun bt207 => ((tempo_Rate.f k y194 bt199.1 bt199.2.1).bind fun bt209 => ((tempo_Rate.f k y194 bt203.1 bt203.2.1).bind fun bt211 => ((tempo_Micros.f k y194 bt199.1 bt199.2.1).bind fun bt213 => (if bt207.2 = 0 then (if bt209.2 = 0 then (if bt211.2 = 0 then (if bt213.2 = 0 then (partitalaw11_TempoMiddle.j0 k t186 (wrap64 (100000 + t187)) (wrap64 (100000 + t188)) (wrap64 (1 + t189)) t197 (wrap64 (t197 + t198)) bt209.1 bt211.1 bt213.1 (bt207.1 != (wrap64 (Int.tdiv (wrap64 ((wrap64 (2 * (wrap64 ((wrap64 (100000 + t187)) + (wrap64 (100000 + t188)))))) * (wrap64 (1 + t189)))) 96)))) else (partitalaw11_TempoMiddle.j0 k t186 (wrap64 (100000 + t187)) (wrap64 (100000 + t188)) (wrap64 (1 + t189)) t197 (wrap64 (t197 + t198)) bt209.1 bt211.1 bt213.1 true)) else (partitalaw11_TempoMiddle.j0 k t186 (wrap64 (100000 + t187)) (wrap64 (100000 + t188)) (wrap64 (1 + t189)) t197 (wrap64 (t197 + t198)) bt209.1 bt211.1 bt213.1 true)) else (partitalaw11_TempoMiddle.j0 k t186 (wrap64 (100000 + t187)) (wrap64 (100000 + t188)) (wrap64 (1 + t189)) t197 (wrap64 (t197 + t198)) bt209.1 bt211.1 bt213.1 true)) else (partitalaw11_TempoMiddle.j0 k t186 (wrap64 (100000 + t187)) (wrap64 (100000 + t188)) (wrap64 (1 + t189)) t197 (wrap64 (t197 + t198)) bt209.1 bt211.1 bt213.1 true))))))))))) = some r := H
  have A10 := Aside0.mk A100
  clear A100
  obtain ⟨y194, hy194⟩ : ∃ y_ : List (S36), y_ = (([(⟨(⟨0, 1⟩ : S27), wrap64 (100000 + t187), true⟩ : S36), (⟨(⟨t190, t191⟩ : S27), wrap64 (100000 + t188), false⟩ : S36)] : List (S36))) := ⟨_, rfl⟩
  replace H : ((partitalaw11_pick.f a3 (wrap64 ((wrap64 (1 + t189)) + 1))).bind fun t197 => ((partitalaw11_pick.f a4 (wrap64 ((wrap64 ((wrap64 (1 + t189)) + 1)) - t197))).bind fun t198 => ((partitaref01_Of.f k t197 96).bind fun bt199 => ((partitaref01_Of.f k (wrap64 (t197 + t198)) 96).bind fun bt203 => ((tempo_Micros.f k y194 t190 t191).bind fun bt207 => ((tempo_Rate.f k y194 bt199.1 bt199.2.1).bind fun bt209 => ((tempo_Rate.f k y194 bt203.1 bt203.2.1).bind fun bt211 => ((tempo_Micros.f k y194 bt199.1 bt199.2.1).bind fun bt213 => (if bt207.2 = 0 then (if bt209.2 = 0 then (if bt211.2 = 0 then (if bt213.2 = 0 then (partitalaw11_TempoMiddle.j0 k t186 (wrap64 (100000 + t187)) (wrap64 (100000 + t188)) (wrap64 (1 + t189)) t197 (wrap64 (t197 + t198)) bt209.1 bt211.1 bt213.1 (bt207.1 != (wrap64 (Int.tdiv (wrap64 ((wrap64 (2 * (wrap64 ((wrap64 (100000 + t187)) + (wrap64 (100000 + t188)))))) * (wrap64 (1 + t189)))) 96)))) else (partitalaw11_TempoMiddle.j0 k t186 (wrap64 (100000 + t187)) (wrap64 (100000 + t188)) (wrap64 (1 + t189)) t197 (wrap64 (t197 + t198)) bt209.1 bt211.1 bt213.1 true)) else (partitalaw11_TempoMiddle.j0 k t186 (wrap64 (100000 + t187)) (wrap64 (100000 + t188)) (wrap64 (1 + t189)) t197 (wrap64 (t197 + t198)) bt209.1 bt211.1 bt213.1 true)) else (partitalaw11_TempoMiddle.j0 k t186 (wrap64 (100000 + t187)) (wrap64 (100000 + t188)) (wrap64 (1 + t189)) t197 (wrap64 (t197 + t198)) bt209.1 bt211.1 bt213.1 true)) else (partitalaw11_TempoMiddle.j0 k t186 (wrap64 (100000 + t187)) (wrap64 (100000 + t188)) (wrap64 (1 + t189)) t197 (wrap64 (t197 + t198)) bt209.1 bt211.1 bt213.1 true)))))))))) = some r := by first | (rw [hy194]; with_reducible exact H) | (have H2_ := (Option.bind_some _ _).symm.trans H; rw [hy194]; with_reducible exact H2_) | (have H2_ := (Option.bind_some _ _).symm.trans H; with_reducible exact H2_) | with_reducible exact H | (rw [hy194]; exact H) | exact H
  have Ny194 := Aside0.mk hy194
  clear hy194
  replace H := Option.bind_eq_some_iff.mp H
  obtain ⟨t197, A110, H⟩ := H
  replace H : ((partitalaw11_pick.f a4 (wrap64 ((wrap64 ((wrap64 (1 + t189)) + 1)) - t197))).bind fun t198 => ((partitaref01_Of.f k t197 96).bind fun bt199 => ((partitaref01_Of.f k (wrap64 (t197 + t198)) 96).bind fun bt203 => ((tempo_Micros.f k y194 t190 t191).bind fun bt207 => ((tempo_Rate.f k y194 bt199.1 bt199.2.1).bind fun bt209 => ((tempo_Rate.f k y194 bt203.1 bt203.2.1).bind fun bt211 => ((tempo_Micros.f k y194 bt199.1 bt199.2.1).bind fun bt213 => (if bt207.2 = 0 then (if bt209.2 = 0 then (if bt211.2 = 0 then (if bt213.2 = 0 then (partitalaw11_TempoMiddle.j0 k t186 (wrap64 (100000 + t187)) (wrap64 (100000 + t188)) (wrap64 (1 + t189)) t197 (wrap64 (t197 + t198)) bt209.1 bt211.1 bt213.1 (bt207.1 != (wrap64 (Int.tdiv (wrap64 ((wrap64 (2 * (wrap64 ((wrap64 (100000 + t187)) + (wrap64 (100000 + t188)))))) * (wrap64 (1 + t189)))) 96)))) else (partitalaw11_TempoMiddle.j0 k t186 (wrap64 (100000 + t187)) (wrap64 (100000 + t188)) (wrap64 (1 + t189)) t197 (wrap64 (t197 + t198)) bt209.1 bt211.1 bt213.1 true)) else (partitalaw11_TempoMiddle.j0 k t186 (wrap64 (100000 + t187)) (wrap64 (100000 + t188)) (wrap64 (1 + t189)) t197 (wrap64 (t197 + t198)) bt209.1 bt211.1 bt213.1 true)) else (partitalaw11_TempoMiddle.j0 k t186 (wrap64 (100000 + t187)) (wrap64 (100000 + t188)) (wrap64 (1 + t189)) t197 (wrap64 (t197 + t198)) bt209.1 bt211.1 bt213.1 true)) else (partitalaw11_TempoMiddle.j0 k t186 (wrap64 (100000 + t187)) (wrap64 (100000 + t188)) (wrap64 (1 + t189)) t197 (wrap64 (t197 + t198)) bt209.1 bt211.1 bt213.1 true))))))))) = some r := H
  have A11 := Aside0.mk A110
  clear A110
  replace H := Option.bind_eq_some_iff.mp H
  obtain ⟨t198, A120, H⟩ := H
  replace H : ((partitaref01_Of.f k t197 96).bind fun bt199 => ((partitaref01_Of.f k (wrap64 (t197 + t198)) 96).bind fun bt203 => ((tempo_Micros.f k y194 t190 t191).bind fun bt207 => ((tempo_Rate.f k y194 bt199.1 bt199.2.1).bind fun bt209 => ((tempo_Rate.f k y194 bt203.1 bt203.2.1).bind fun bt211 => ((tempo_Micros.f k y194 bt199.1 bt199.2.1).bind fun bt213 => (if bt207.2 = 0 then (if bt209.2 = 0 then (if bt211.2 = 0 then (if bt213.2 = 0 then (partitalaw11_TempoMiddle.j0 k t186 (wrap64 (100000 + t187)) (wrap64 (100000 + t188)) (wrap64 (1 + t189)) t197 (wrap64 (t197 + t198)) bt209.1 bt211.1 bt213.1 (bt207.1 != (wrap64 (Int.tdiv (wrap64 ((wrap64 (2 * (wrap64 ((wrap64 (100000 + t187)) + (wrap64 (100000 + t188)))))) * (wrap64 (1 + t189)))) 96)))) else (partitalaw11_TempoMiddle.j0 k t186 (wrap64 (100000 + t187)) (wrap64 (100000 + t188)) (wrap64 (1 + t189)) t197 (wrap64 (t197 + t198)) bt209.1 bt211.1 bt213.1 true)) else (partitalaw11_TempoMiddle.j0 k t186 (wrap64 (100000 + t187)) (wrap64 (100000 + t188)) (wrap64 (1 + t189)) t197 (wrap64 (t197 + t198)) bt209.1 bt211.1 bt213.1 true)) else (partitalaw11_TempoMiddle.j0 k t186 (wrap64 (100000 + t187)) (wrap64 (100000 + t188)) (wrap64 (1 + t189)) t197 (wrap64 (t197 + t198)) bt209.1 bt211.1 bt213.1 true)) else (partitalaw11_TempoMiddle.j0 k t186 (wrap64 (100000 + t187)) (wrap64 (100000 + t188)) (wrap64 (1 + t189)) t197 (wrap64 (t197 + t198)) bt209.1 bt211.1 bt213.1 true)))))))) = some r := H
  have A12 := Aside0.mk A120
  clear A120
  replace H := Option.bind_eq_some_iff.mp H
  obtain ⟨⟨t199, t200, t201⟩, A130, H⟩ := H
  replace H : ((partitaref01_Of.f k (wrap64 (t197 + t198)) 96).bind fun bt203 => ((tempo_Micros.f k y194 t190 t191).bind fun bt207 => ((tempo_Rate.f k y194 t199 t200).bind fun bt209 => ((tempo_Rate.f k y194 bt203.1 bt203.2.1).bind fun bt211 => ((tempo_Micros.f k y194 t199 t200).bind fun bt213 => (if bt207.2 = 0 then (if bt209.2 = 0 then (if bt211.2 = 0 then (if bt213.2 = 0 then (partitalaw11_TempoMiddle.j0 k t186 (wrap64 (100000 + t187)) (wrap64 (100000 + t188)) (wrap64 (1 + t189)) t197 (wrap64 (t197 + t198)) bt209.1 bt211.1 bt213.1 (bt207.1 != (wrap64 (Int.tdiv (wrap64 ((wrap64 (2 * (wrap64 ((wrap64 (100000 + t187)) + (wrap64 (100000 + t188)))))) * (wrap64 (1 + t189)))) 96)))) else (partitalaw11_TempoMiddle.j0 k t186 (wrap64 (100000 + t187)) (wrap64 (100000 + t188)) (wrap64 (1 + t189)) t197 (wrap64 (t197 + t198)) bt209.1 bt211.1 bt213.1 true)) else (partitalaw11_TempoMiddle.j0 k t186 (wrap64 (100000 + t187)) (wrap64 (100000 + t188)) (wrap64 (1 + t189)) t197 (wrap64 (t197 + t198)) bt209.1 bt211.1 bt213.1 true)) else (partitalaw11_TempoMiddle.j0 k t186 (wrap64 (100000 + t187)) (wrap64 (100000 + t188)) (wrap64 (1 + t189)) t197 (wrap64 (t197 + t198)) bt209.1 bt211.1 bt213.1 true)) else (partitalaw11_TempoMiddle.j0 k t186 (wrap64 (100000 + t187)) (wrap64 (100000 + t188)) (wrap64 (1 + t189)) t197 (wrap64 (t197 + t198)) bt209.1 bt211.1 bt213.1 true))))))) = some r := H
  have A13 := Aside0.mk A130
  clear A130
  replace H := Option.bind_eq_some_iff.mp H
  obtain ⟨⟨t203, t204, t205⟩, A140, H⟩ := H
  replace H : ((tempo_Micros.f k y194 t190 t191).bind fun bt207 => ((tempo_Rate.f k y194 t199 t200).bind fun bt209 => ((tempo_Rate.f k y194 t203 t204).bind fun bt211 => ((tempo_Micros.f k y194 t199 t200).bind fun bt213 => (if bt207.2 = 0 then (if bt209.2 = 0 then (if bt211.2 = 0 then (if bt213.2 = 0 then (partitalaw11_TempoMiddle.j0 k t186 (wrap64 (100000 + t187)) (wrap64 (100000 + t188)) (wrap64 (1 + t189)) t197 (wrap64 (t197 + t198)) bt209.1 bt211.1 bt213.1 (bt207.1 != (wrap64 (Int.tdiv (wrap64 ((wrap64 (2 * (wrap64 ((wrap64 (100000 + t187)) + (wrap64 (100000 + t188)))))) * (wrap64 (1 + t189)))) 96)))) else (partitalaw11_TempoMiddle.j0 k t186 (wrap64 (100000 + t187)) (wrap64 (100000 + t188)) (wrap64 (1 + t189)) t197 (wrap64 (t197 + t198)) bt209.1 bt211.1 bt213.1 true)) else (partitalaw11_TempoMiddle.j0 k t186 (wrap64 (100000 + t187)) (wrap64 (100000 + t188)) (wrap64 (1 + t189)) t197 (wrap64 (t197 + t198)) bt209.1 bt211.1 bt213.1 true)) else (partitalaw11_TempoMiddle.j0 k t186 (wrap64 (100000 + t187)) (wrap64 (100000 + t188)) (wrap64 (1 + t189)) t197 (wrap64 (t197 + t198)) bt209.1 bt211.1 bt213.1 true)) else (partitalaw11_TempoMiddle.j0 k t186 (wrap64 (100000 + t187)) (wrap64 (100000 + t188)) (wrap64 (1 + t189)) t197 (wrap64 (t197 + t198)) bt209.1 bt211.1 bt213.1 true)))))) = some r := H
  have A14 := Aside0.mk A140
  clear A140
  replace H := Option.bind_eq_some_iff.mp H
  obtain ⟨⟨t207, t208⟩, A150, H⟩ := H
  replace H : ((tempo_Rate.f k y194 t199 t200).bind fun bt209 => ((tempo_Rate.f k y194 t203 t204).bind fun bt211 => ((tempo_Micros.f k y194 t199 t200).bind fun bt213 => (if t208 = 0 then (if bt209.2 = 0 then (if bt211.2 = 0 then (if bt213.2 = 0 then (partitalaw11_TempoMiddle.j0 k t186 (wrap64 (100000 + t187)) (wrap64 (100000 + t188)) (wrap64 (1 + t189)) t197 (wrap64 (t197 + t198)) bt209.1 bt211.1 bt213.1 (t207 != (wrap64 (Int.tdiv (wrap64 ((wrap64 (2 * (wrap64 ((wrap64 (100000 + t187)) + (wrap64 (100000 + t188)))))) * (wrap64 (1 + t189)))) 96)))) else (partitalaw11_TempoMiddle.j0 k t186 (wrap64 (100000 + t187)) (wrap64 (100000 + t188)) (wrap64 (1 + t189)) t197 (wrap64 (t197 + t198)) bt209.1 bt211.1 bt213.1 true)) else (partitalaw11_TempoMiddle.j0 k t186 (wrap64 (100000 + t187)) (wrap64 (100000 + t188)) (wrap64 (1 + t189)) t197 (wrap64 (t197 + t198)) bt209.1 bt211.1 bt213.1 true)) else (partitalaw11_TempoMiddle.j0 k t186 (wrap64 (100000 + t187)) (wrap64 (100000 + t188)) (wrap64 (1 + t189)) t197 (wrap64 (t197 + t198)) bt209.1 bt211.1 bt213.1 true)) else (partitalaw11_TempoMiddle.j0 k t186 (wrap64 (100000 + t187)) (wrap64 (100000 + t188)) (wrap64 (1 + t189)) t197 (wrap64 (t197 + t198)) bt209.1 bt211.1 bt213.1 true))))) = some r := H
  have A15 := Aside0.mk A150
  clear A150
  replace H := Option.bind_eq_some_iff.mp H
  obtain ⟨⟨t209, t210⟩, A160, H⟩ := H
  replace H : ((tempo_Rate.f k y194 t203 t204).bind fun bt211 => ((tempo_Micros.f k y194 t199 t200).bind fun bt213 => (if t208 = 0 then (if t210 = 0 then (if bt211.2 = 0 then (if bt213.2 = 0 then (partitalaw11_TempoMiddle.j0 k t186 (wrap64 (100000 + t187)) (wrap64 (100000 + t188)) (wrap64 (1 + t189)) t197 (wrap64 (t197 + t198)) t209 bt211.1 bt213.1 (t207 != (wrap64 (Int.tdiv (wrap64 ((wrap64 (2 * (wrap64 ((wrap64 (100000 + t187)) + (wrap64 (100000 + t188)))))) * (wrap64 (1 + t189)))) 96)))) else (partitalaw11_TempoMiddle.j0 k t186 (wrap64 (100000 + t187)) (wrap64 (100000 + t188)) (wrap64 (1 + t189)) t197 (wrap64 (t197 + t198)) t209 bt211.1 bt213.1 true)) else (partitalaw11_TempoMiddle.j0 k t186 (wrap64 (100000 + t187)) (wrap64 (100000 + t188)) (wrap64 (1 + t189)) t197 (wrap64 (t197 + t198)) t209 bt211.1 bt213.1 true)) else (partitalaw11_TempoMiddle.j0 k t186 (wrap64 (100000 + t187)) (wrap64 (100000 + t188)) (wrap64 (1 + t189)) t197 (wrap64 (t197 + t198)) t209 bt211.1 bt213.1 true)) else (partitalaw11_TempoMiddle.j0 k t186 (wrap64 (100000 + t187)) (wrap64 (100000 + t188)) (wrap64 (1 + t189)) t197 (wrap64 (t197 + t198)) t209 bt211.1 bt213.1 true)))) = some r := H
  have A16 := Aside0.mk A160
  clear A160
  replace H := Option.bind_eq_some_iff.mp H
  obtain ⟨⟨t211, t212⟩, A170, H⟩ := H
  replace H : ((tempo_Micros.f k y194 t199 t200).bind fun bt213 => (if t208 = 0 then (if t210 = 0 then (if t212 = 0 then (if bt213.2 = 0 then (partitalaw11_TempoMiddle.j0 k t186 (wrap64 (100000 + t187)) (wrap64 (100000 + t188)) (wrap64 (1 + t189)) t197 (wrap64 (t197 + t198)) t209 t211 bt213.1 (t207 != (wrap64 (Int.tdiv (wrap64 ((wrap64 (2 * (wrap64 ((wrap64 (100000 + t187)) + (wrap64 (100000 + t188)))))) * (wrap64 (1 + t189)))) 96)))) else (partitalaw11_TempoMiddle.j0 k t186 (wrap64 (100000 + t187)) (wrap64 (100000 + t188)) (wrap64 (1 + t189)) t197 (wrap64 (t197 + t198)) t209 t211 bt213.1 true)) else (partitalaw11_TempoMiddle.j0 k t186 (wrap64 (100000 + t187)) (wrap64 (100000 + t188)) (wrap64 (1 + t189)) t197 (wrap64 (t197 + t198)) t209 t211 bt213.1 true)) else (partitalaw11_TempoMiddle.j0 k t186 (wrap64 (100000 + t187)) (wrap64 (100000 + t188)) (wrap64 (1 + t189)) t197 (wrap64 (t197 + t198)) t209 t211 bt213.1 true)) else (partitalaw11_TempoMiddle.j0 k t186 (wrap64 (100000 + t187)) (wrap64 (100000 + t188)) (wrap64 (1 + t189)) t197 (wrap64 (t197 + t198)) t209 t211 bt213.1 true))) = some r := H
  have A17 := Aside0.mk A170
  clear A170
  replace H := Option.bind_eq_some_iff.mp H
  obtain ⟨⟨t213, t214⟩, A180, H⟩ := H
  replace H : (if t208 = 0 then (if t210 = 0 then (if t212 = 0 then (if t214 = 0 then (partitalaw11_TempoMiddle.j0 k t186 (wrap64 (100000 + t187)) (wrap64 (100000 + t188)) (wrap64 (1 + t189)) t197 (wrap64 (t197 + t198)) t209 t211 t213 (t207 != (wrap64 (Int.tdiv (wrap64 ((wrap64 (2 * (wrap64 ((wrap64 (100000 + t187)) + (wrap64 (100000 + t188)))))) * (wrap64 (1 + t189)))) 96)))) else (partitalaw11_TempoMiddle.j0 k t186 (wrap64 (100000 + t187)) (wrap64 (100000 + t188)) (wrap64 (1 + t189)) t197 (wrap64 (t197 + t198)) t209 t211 t213 true)) else (partitalaw11_TempoMiddle.j0 k t186 (wrap64 (100000 + t187)) (wrap64 (100000 + t188)) (wrap64 (1 + t189)) t197 (wrap64 (t197 + t198)) t209 t211 t213 true)) else (partitalaw11_TempoMiddle.j0 k t186 (wrap64 (100000 + t187)) (wrap64 (100000 + t188)) (wrap64 (1 + t189)) t197 (wrap64 (t197 + t198)) t209 t211 t213 true)) else (partitalaw11_TempoMiddle.j0 k t186 (wrap64 (100000 + t187)) (wrap64 (100000 + t188)) (wrap64 (1 + t189)) t197 (wrap64 (t197 + t198)) t209 t211 t213 true)) = some r := H
  have A18 := Aside0.mk A180
  clear A180
  have HC19 := Aside0.mk H
  clear H
  go_enter Try.func5, Try.ntmps5
  go_upto_region 15 with (first | ((with_reducible refine gate_callee (f := 11) rfl ?_); refine goesL_ (some 33) rfl rfl Try.func11 (by kernel_rfl) rfl #[] rfl (by (try simp only [List.map_toArray, List.map_cons, List.map_nil]); first | done | rfl | (simp only [List.length_drop, List.length_take]; rfl)) ?_; (with_reducible refine (partitalaw11_awake.calls k  t186 _ A6.out).mono ?_); rintro e w20 ⟨rfl, hb⟩; refine ⟨_, rfl, ?_⟩; have n0_ := Aside0.mk (below_step (by repeat (first | (with_reducible first | exact HB.out | apply below_alloc | apply pw_below_drewN | apply below_drew1) | exact HB.out)) hb); clear HB; have HB := n0_; clear n0_; (try clear hb); (try clear hb2); (try clear hk); (try clear hi)) | ((with_reducible refine gate_callee (f := 13) rfl ?_); refine goesL_ (some 35) rfl rfl Try.func13 (by kernel_rfl) rfl #[.int .i64 a0, .int .i64 3900001] rfl (by (try simp only [List.map_toArray, List.map_cons, List.map_nil]); first | done | rfl | (simp only [List.length_drop, List.length_take]; rfl)) ?_; (with_reducible refine (partitalaw11_pick.calls a0 3900001 t187 _ A7.out).mono ?_); rintro e w' ⟨rfl, ⟨nd, rfl⟩⟩; refine ⟨_, rfl, ?_⟩; (try (rw [drewN_self w20]; generalize hq_ : World.drewN w20 _ = w20; have n0_ : Aside0 (Below w.heap.size w w20) := ⟨by rw [← hq_]; exact (by repeat (first | (with_reducible first | exact HB.out | apply below_alloc | apply pw_below_drewN | apply below_drew1) | exact HB.out))⟩; clear HB hq_; have HB := n0_; clear n0_))) | ((with_reducible refine gate_callee (f := 13) rfl ?_); refine goesL_ (some 38) rfl rfl Try.func13 (by kernel_rfl) rfl #[.int .i64 a1, .int .i64 3900001] rfl (by (try simp only [List.map_toArray, List.map_cons, List.map_nil]); first | done | rfl | (simp only [List.length_drop, List.length_take]; rfl)) ?_; (with_reducible refine (partitalaw11_pick.calls a1 3900001 t188 _ A8.out).mono ?_); rintro e w' ⟨rfl, ⟨nd, rfl⟩⟩; refine ⟨_, rfl, ?_⟩; (try (rw [drewN_self w20]; generalize hq_ : World.drewN w20 _ = w20; have n0_ : Aside0 (Below w.heap.size w w20) := ⟨by rw [← hq_]; exact (by repeat (first | (with_reducible first | exact HB.out | apply below_alloc | apply pw_below_drewN | apply below_drew1) | exact HB.out))⟩; clear HB hq_; have HB := n0_; clear n0_))) | ((with_reducible refine gate_callee (f := 13) rfl ?_); refine goesL_ (some 41) rfl rfl Try.func13 (by kernel_rfl) rfl #[.int .i64 a2, .int .i64 960] rfl (by (try simp only [List.map_toArray, List.map_cons, List.map_nil]); first | done | rfl | (simp only [List.length_drop, List.length_take]; rfl)) ?_; (with_reducible refine (partitalaw11_pick.calls a2 960 t189 _ A9.out).mono ?_); rintro e w' ⟨rfl, ⟨nd, rfl⟩⟩; refine ⟨_, rfl, ?_⟩; (try (rw [drewN_self w20]; generalize hq_ : World.drewN w20 _ = w20; have n0_ : Aside0 (Below w.heap.size w w20) := ⟨by rw [← hq_]; exact (by repeat (first | (with_reducible first | exact HB.out | apply below_alloc | apply pw_below_drewN | apply below_drew1) | exact HB.out))⟩; clear HB hq_; have HB := n0_; clear n0_))) | ((with_reducible refine gate_callee (f := 14) rfl ?_); refine goesL_ (some 45) rfl rfl Try.func14 (by kernel_rfl) rfl #[.int .i64 (wrap64 (1 + t189)), .int .i64 96] rfl (by (try simp only [List.map_toArray, List.map_cons, List.map_nil]); first | done | rfl | (simp only [List.length_drop, List.length_take]; rfl)) ?_; (with_reducible refine (partitaref01_Of.calls k (wrap64 (1 + t189)) 96 t190 t191 t192 _ A10.out).mono ?_); rintro e w21 ⟨rfl, hb⟩; refine ⟨_, rfl, ?_⟩; have n0_ := Aside0.mk (below_step (by repeat (first | (with_reducible first | exact HB.out | apply below_alloc | apply pw_below_drewN | apply below_drew1) | exact HB.out)) hb); clear HB; have HB := n0_; clear n0_; (try clear hb); (try clear hb2); (try clear hk); (try clear hi)) | ((with_reducible refine gate_dst (N := 15) rfl ?_); (try (refine gate_guard (by rfl) ?_; dsimp only)); refine box_event ?hg (N := 15) ?hd (cs := #[.int .i64 0, .int .i64 0]) (t := 27) ?hr ?_; (case hd => rfl); (case hg => rfl); (case hr => first | (go_simp; done) | (go_simp; rfl)); intro gb193 hg w22 hbox hb; have n0_ := Aside0.mk (below_step (by repeat (first | (with_reducible first | exact HB.out | apply below_alloc | apply pw_below_drewN | apply below_drew1) | exact HB.out)) hb); have n1_ := Aside0.mk (hbox); have n2_ := Aside0.mk ((by rw [hg]; exact (below_size (by repeat (first | (with_reducible first | exact HB.out | apply below_alloc | apply pw_below_drewN | apply below_drew1) | exact HB.out))) : w.heap.size ≤ gb193)); have n3_ := Aside0.mk ((by rw [hg]; exact (below_size (by repeat (first | (with_reducible first | exact HB.out | apply below_alloc | apply pw_below_drewN | apply below_drew1) | exact HB.out))) : w.heap.size ≤ gb193)); clear HB; have HB := n0_; have BK193 := n1_; have GW193 := n2_; have GE193 := n3_; clear n0_ n1_ n2_ n3_; clear hb hbox hg; have hcz23_0 : w22.cell? ⟨gb193, 0, none⟩ = some (.int .i64 0) := (blk_cell BK193.out 0).trans rfl; have hcz23_1 : w22.cell? ⟨gb193, 1, none⟩ = some (.int .i64 0) := (blk_cell BK193.out 1).trans rfl; have hfz23_0 := blk_frozen BK193.out 0; have hfz23_1 := blk_frozen BK193.out 1) | ((with_reducible refine gate_dst (N := 54) rfl ?_); (try (refine gate_guard (by rfl) ?_; dsimp only)); refine Kd.R_lit k36 _ 36 ?hg (N := 54) ?hd (xs := ([(⟨(⟨0, 1⟩ : S27), wrap64 (100000 + t187), true⟩ : S36), (⟨(⟨t190, t191⟩ : S27), wrap64 (100000 + t188), false⟩ : S36)] : List (S36))) (inner := [.int .i64 0, .int .i64 1, .int .i64 (wrap64 (100000 + t187)), .bool true, .int .i64 t190, .int .i64 t191, .int .i64 (wrap64 (100000 + t188)), .bool false]) (ok := fun _ => True) (okp := fun _ => True) ?hr ?hp (fun _ hk => hk) trivial (Below.refl _ _) (Nat.le_refl _) (by simp) ?_; (case hd => rfl); (case hg => rfl); (case hr => first | (go_simp; done) | (go_simp; rfl)); (case hp => exact (Reps.c4 (show Kd.M k36 _ _ _ (⟨(⟨0, 1⟩ : S27), wrap64 (100000 + t187), true⟩ : S36) [.int .i64 0, .int .i64 1, .int .i64 (wrap64 (100000 + t187)), .bool true] from (k36_mkM _ _ _ (⟨(⟨0, 1⟩ : S27), wrap64 (100000 + t187), true⟩ : S36) )) (Reps.c4 (show Kd.M k36 _ _ _ (⟨(⟨t190, t191⟩ : S27), wrap64 (100000 + t188), false⟩ : S36) [.int .i64 t190, .int .i64 t191, .int .i64 (wrap64 (100000 + t188)), .bool false] from (k36_mkM _ _ _ (⟨(⟨t190, t191⟩ : S27), wrap64 (100000 + t188), false⟩ : S36) )) (Reps.none _ _)))); intro v195 w24 ho25 hb hg_ hnew_; clear hg_ hnew_; (first | rw [← Ny194.out] at ho25 | (simp only [Int.reduceToNat] at ho25; rw [← Ny194.out] at ho25)); have n0_ := Aside0.mk (Kd.R_lower ho25 (below_size (by repeat (first | (with_reducible first | exact HB.out | apply below_alloc | apply pw_below_drewN | apply below_drew1 | refine below_set ?_ GE193.out) | exact HB.out)))); have n1_ := Aside0.mk (blk_below (g := gb193) (o := .cells #[.int .i64 t190, .int .i64 t191] 27 (0, 0)) (by (with_reducible repeat (first | refine blk_drewN ?_ _ | refine blk_drew ?_ | refine blk_alloc ?_ _)); refine blk_put (cs := #[.int .i64 t190, .int .i64 0]) ?_ 1 _ rfl; (with_reducible repeat (first | refine blk_drewN ?_ _ | refine blk_drew ?_ | refine blk_alloc ?_ _)); refine blk_put (cs := #[.int .i64 0, .int .i64 0]) ?_ 0 _ rfl; (with_reducible repeat (first | refine blk_drewN ?_ _ | refine blk_drew ?_ | refine blk_alloc ?_ _)); exact BK193.out) hb); have n2_ := Aside0.mk (below_step (by repeat (first | (with_reducible first | exact HB.out | apply below_alloc | apply pw_below_drewN | apply below_drew1 | refine below_set ?_ GE193.out) | exact HB.out)) hb); clear BK193; clear HB; have HO196 := n0_; have BK193 := n1_; have HB := n2_; clear n0_ n1_ n2_; clear hb ho25) | ((with_reducible refine gate_callee (f := 13) rfl ?_); refine goesL_ (some 58) rfl rfl Try.func13 (by kernel_rfl) rfl #[.int .i64 a3, .int .i64 (wrap64 ((wrap64 (1 + t189)) + 1))] rfl (by (try simp only [List.map_toArray, List.map_cons, List.map_nil]); first | done | rfl | (simp only [List.length_drop, List.length_take]; rfl)) ?_; (with_reducible refine (partitalaw11_pick.calls a3 (wrap64 ((wrap64 (1 + t189)) + 1)) t197 _ A11.out).mono ?_); rintro e w' ⟨rfl, ⟨nd, rfl⟩⟩; refine ⟨_, rfl, ?_⟩; (try (rw [drewN_self w24]; generalize hq_ : World.drewN w24 _ = w24; have n0_ : Aside0 (Kd.R k36 36 w24 w.heap.size (fun _ => True) v195 y194) := ⟨by rw [← hq_]; exact (by (with_reducible repeat (first | apply Kd.R_alloc | apply Kd.R_drewN | apply Kd.R_drew)); exact HO196.out)⟩; have n1_ : Aside0 (w24.heap[gb193]? = some (.cells #[.int .i64 t190, .int .i64 t191] 27 (0, 0))) := ⟨by rw [← hq_]; exact (by (with_reducible repeat (first | refine blk_drewN ?_ _ | refine blk_drew ?_ | refine blk_alloc ?_ _)); exact BK193.out)⟩; have n2_ : Aside0 (Below w.heap.size w w24) := ⟨by rw [← hq_]; exact (by repeat (first | (with_reducible first | exact HB.out | apply below_alloc | apply pw_below_drewN | apply below_drew1 | refine below_set ?_ GE193.out) | exact HB.out))⟩; clear HO196 BK193 HB hq_; have HO196 := n0_; have BK193 := n1_; have HB := n2_; clear n0_ n1_ n2_))) | ((with_reducible refine gate_callee (f := 13) rfl ?_); refine goesL_ (some 65) rfl rfl Try.func13 (by kernel_rfl) rfl #[.int .i64 a4, .int .i64 (wrap64 ((wrap64 ((wrap64 (1 + t189)) + 1)) - t197))] rfl (by (try simp only [List.map_toArray, List.map_cons, List.map_nil]); first | done | rfl | (simp only [List.length_drop, List.length_take]; rfl)) ?_; (with_reducible refine (partitalaw11_pick.calls a4 (wrap64 ((wrap64 ((wrap64 (1 + t189)) + 1)) - t197)) t198 _ A12.out).mono ?_); rintro e w' ⟨rfl, ⟨nd, rfl⟩⟩; refine ⟨_, rfl, ?_⟩; (try (rw [drewN_self w24]; generalize hq_ : World.drewN w24 _ = w24; have n0_ : Aside0 (Kd.R k36 36 w24 w.heap.size (fun _ => True) v195 y194) := ⟨by rw [← hq_]; exact (by (with_reducible repeat (first | apply Kd.R_alloc | apply Kd.R_drewN | apply Kd.R_drew)); exact HO196.out)⟩; have n1_ : Aside0 (w24.heap[gb193]? = some (.cells #[.int .i64 t190, .int .i64 t191] 27 (0, 0))) := ⟨by rw [← hq_]; exact (by (with_reducible repeat (first | refine blk_drewN ?_ _ | refine blk_drew ?_ | refine blk_alloc ?_ _)); exact BK193.out)⟩; have n2_ : Aside0 (Below w.heap.size w w24) := ⟨by rw [← hq_]; exact (by repeat (first | (with_reducible first | exact HB.out | apply below_alloc | apply pw_below_drewN | apply below_drew1 | refine below_set ?_ GE193.out) | exact HB.out))⟩; clear HO196 BK193 HB hq_; have HO196 := n0_; have BK193 := n1_; have HB := n2_; clear n0_ n1_ n2_))) | ((with_reducible refine gate_callee (f := 14) rfl ?_); refine goesL_ (some 69) rfl rfl Try.func14 (by kernel_rfl) rfl #[.int .i64 t197, .int .i64 96] rfl (by (try simp only [List.map_toArray, List.map_cons, List.map_nil]); first | done | rfl | (simp only [List.length_drop, List.length_take]; rfl)) ?_; (with_reducible refine (partitaref01_Of.calls k t197 96 t199 t200 t201 _ A13.out).mono ?_); rintro e w26 ⟨rfl, hb⟩; refine ⟨_, rfl, ?_⟩; have n0_ := Aside0.mk (Kd.R_below (by (with_reducible repeat (first | apply Kd.R_alloc | apply Kd.R_drewN | apply Kd.R_drew)); exact HO196.out) hb); have n1_ := Aside0.mk (blk_below (g := gb193) (o := .cells #[.int .i64 t190, .int .i64 t191] 27 (0, 0)) (by (with_reducible repeat (first | refine blk_drewN ?_ _ | refine blk_drew ?_ | refine blk_alloc ?_ _)); exact BK193.out) hb); have n2_ := Aside0.mk (below_step (by repeat (first | (with_reducible first | exact HB.out | apply below_alloc | apply pw_below_drewN | apply below_drew1 | refine below_set ?_ GE193.out) | exact HB.out)) hb); clear HO196; clear BK193; clear HB; have HO196 := n0_; have BK193 := n1_; have HB := n2_; clear n0_ n1_ n2_; (try clear hb); (try clear hb2); (try clear hk); (try clear hi)) | ((with_reducible refine gate_dst (N := 20) rfl ?_); (try (refine gate_guard (by rfl) ?_; dsimp only)); refine box_event ?hg (N := 20) ?hd (cs := #[.int .i64 0, .int .i64 0]) (t := 27) ?hr ?_; (case hd => rfl); (case hg => rfl); (case hr => first | (go_simp; done) | (go_simp; rfl)); intro gb202 hg w27 hbox hb; have n0_ := Aside0.mk (Kd.R_below (by (with_reducible repeat (first | apply Kd.R_alloc | apply Kd.R_drewN | apply Kd.R_drew)); exact HO196.out) hb); have n1_ := Aside0.mk (blk_below (g := gb193) (o := .cells #[.int .i64 t190, .int .i64 t191] 27 (0, 0)) (by (with_reducible repeat (first | refine blk_drewN ?_ _ | refine blk_drew ?_ | refine blk_alloc ?_ _)); exact BK193.out) hb); have n2_ := Aside0.mk (below_step (by repeat (first | (with_reducible first | exact HB.out | apply below_alloc | apply pw_below_drewN | apply below_drew1 | refine below_set ?_ GE193.out) | exact HB.out)) hb); have n3_ := Aside0.mk (hbox); have n4_ := Aside0.mk ((by rw [hg]; exact (below_size (by repeat (first | (with_reducible first | exact HB.out | apply below_alloc | apply pw_below_drewN | apply below_drew1 | refine below_set ?_ GE193.out) | exact HB.out))) : w.heap.size ≤ gb202)); have n5_ := Aside0.mk ((by rw [hg]; exact (below_size (by repeat (first | (with_reducible first | exact HB.out | apply below_alloc | apply pw_below_drewN | apply below_drew1 | refine below_set ?_ GE193.out) | exact HB.out))) : w.heap.size ≤ gb202)); have n6_ := Aside0.mk ((by rw [hg]; exact Nat.ne_of_lt (blk_lt (g := gb193) (o := .cells #[.int .i64 t190, .int .i64 t191] 27 (0, 0)) (by (with_reducible repeat (first | refine blk_drewN ?_ _ | refine blk_drew ?_ | refine blk_alloc ?_ _)); exact BK193.out)) : gb193 ≠ gb202)); have n7_ := Aside0.mk ((by rw [hg]; exact Nat.ne_of_gt (blk_lt (g := gb193) (o := .cells #[.int .i64 t190, .int .i64 t191] 27 (0, 0)) (by (with_reducible repeat (first | refine blk_drewN ?_ _ | refine blk_drew ?_ | refine blk_alloc ?_ _)); exact BK193.out)) : gb202 ≠ gb193)); clear HO196; clear BK193; clear HB; have HO196 := n0_; have BK193 := n1_; have HB := n2_; have BK202 := n3_; have GW202 := n4_; have GE202 := n5_; have NB193_202 := n6_; have NB202_193 := n7_; clear n0_ n1_ n2_ n3_ n4_ n5_ n6_ n7_; clear hb hbox hg; have hnb28 := NB202_193.out; have hnc28 := NB193_202.out; have hcz29_0 : w27.cell? ⟨gb202, 0, none⟩ = some (.int .i64 0) := (blk_cell BK202.out 0).trans rfl; have hcz29_1 : w27.cell? ⟨gb202, 1, none⟩ = some (.int .i64 0) := (blk_cell BK202.out 1).trans rfl; have hfz29_0 := blk_frozen BK202.out 0; have hfz29_1 := blk_frozen BK202.out 1) | ((with_reducible refine gate_callee (f := 14) rfl ?_); refine goesL_ (some 74) rfl rfl Try.func14 (by kernel_rfl) rfl #[.int .i64 (wrap64 (t197 + t198)), .int .i64 96] rfl (by (try simp only [List.map_toArray, List.map_cons, List.map_nil]); first | done | rfl | (simp only [List.length_drop, List.length_take]; rfl)) ?_; (with_reducible refine (partitaref01_Of.calls k (wrap64 (t197 + t198)) 96 t203 t204 t205 _ A14.out).mono ?_); rintro e w30 ⟨rfl, hb⟩; refine ⟨_, rfl, ?_⟩; have n0_ := Aside0.mk (Kd.R_below (by (with_reducible repeat (first | apply Kd.R_alloc | apply Kd.R_drewN | apply Kd.R_drew)); exact (Kd.R_mono (Kd.R_far (p := ⟨gb202, 1, none⟩) (Kd.R_far (p := ⟨gb202, 0, none⟩) (Kd.R_types HO196.out BK202.out (by decide)) (fun _ hk => hk.2) (.int .i64 t199)) (fun _ hk => hk.2) (.int .i64 t200)) (fun _ h_ => h_.1))) hb); have n1_ := Aside0.mk (blk_below (g := gb193) (o := .cells #[.int .i64 t190, .int .i64 t191] 27 (0, 0)) (by (with_reducible repeat (first | refine blk_drewN ?_ _ | refine blk_drew ?_ | refine blk_alloc ?_ _)); refine blk_far ?_ NB193_202.out _; (with_reducible repeat (first | refine blk_drewN ?_ _ | refine blk_drew ?_ | refine blk_alloc ?_ _)); refine blk_far ?_ NB193_202.out _; (with_reducible repeat (first | refine blk_drewN ?_ _ | refine blk_drew ?_ | refine blk_alloc ?_ _)); exact BK193.out) hb); have n2_ := Aside0.mk (blk_below (g := gb202) (o := .cells #[.int .i64 t199, .int .i64 t200] 27 (0, 0)) (by (with_reducible repeat (first | refine blk_drewN ?_ _ | refine blk_drew ?_ | refine blk_alloc ?_ _)); refine blk_put (cs := #[.int .i64 t199, .int .i64 0]) ?_ 1 _ rfl; (with_reducible repeat (first | refine blk_drewN ?_ _ | refine blk_drew ?_ | refine blk_alloc ?_ _)); refine blk_put (cs := #[.int .i64 0, .int .i64 0]) ?_ 0 _ rfl; (with_reducible repeat (first | refine blk_drewN ?_ _ | refine blk_drew ?_ | refine blk_alloc ?_ _)); exact BK202.out) hb); have n3_ := Aside0.mk (below_step (by repeat (first | (with_reducible first | exact HB.out | apply below_alloc | apply pw_below_drewN | apply below_drew1 | refine below_set ?_ GE193.out | refine below_set ?_ GE202.out) | exact HB.out)) hb); clear HO196; clear BK193; clear BK202; clear HB; have HO196 := n0_; have BK193 := n1_; have BK202 := n2_; have HB := n3_; clear n0_ n1_ n2_ n3_; (try clear hb); (try clear hb2); (try clear hk); (try clear hi)) | ((with_reducible refine gate_dst (N := 22) rfl ?_); (try (refine gate_guard (by rfl) ?_; dsimp only)); refine box_event ?hg (N := 22) ?hd (cs := #[.int .i64 0, .int .i64 0]) (t := 27) ?hr ?_; (case hd => rfl); (case hg => rfl); (case hr => first | (go_simp; done) | (go_simp; rfl)); intro gb206 hg w31 hbox hb; have n0_ := Aside0.mk (Kd.R_below (by (with_reducible repeat (first | apply Kd.R_alloc | apply Kd.R_drewN | apply Kd.R_drew)); exact HO196.out) hb); have n1_ := Aside0.mk (blk_below (g := gb193) (o := .cells #[.int .i64 t190, .int .i64 t191] 27 (0, 0)) (by (with_reducible repeat (first | refine blk_drewN ?_ _ | refine blk_drew ?_ | refine blk_alloc ?_ _)); exact BK193.out) hb); have n2_ := Aside0.mk (blk_below (g := gb202) (o := .cells #[.int .i64 t199, .int .i64 t200] 27 (0, 0)) (by (with_reducible repeat (first | refine blk_drewN ?_ _ | refine blk_drew ?_ | refine blk_alloc ?_ _)); exact BK202.out) hb); have n3_ := Aside0.mk (below_step (by repeat (first | (with_reducible first | exact HB.out | apply below_alloc | apply pw_below_drewN | apply below_drew1 | refine below_set ?_ GE193.out | refine below_set ?_ GE202.out) | exact HB.out)) hb); have n4_ := Aside0.mk (hbox); have n5_ := Aside0.mk ((by rw [hg]; exact (below_size (by repeat (first | (with_reducible first | exact HB.out | apply below_alloc | apply pw_below_drewN | apply below_drew1 | refine below_set ?_ GE193.out | refine below_set ?_ GE202.out) | exact HB.out))) : w.heap.size ≤ gb206)); have n6_ := Aside0.mk ((by rw [hg]; exact (below_size (by repeat (first | (with_reducible first | exact HB.out | apply below_alloc | apply pw_below_drewN | apply below_drew1 | refine below_set ?_ GE193.out | refine below_set ?_ GE202.out) | exact HB.out))) : w.heap.size ≤ gb206)); have n7_ := Aside0.mk ((by rw [hg]; exact Nat.ne_of_lt (blk_lt (g := gb193) (o := .cells #[.int .i64 t190, .int .i64 t191] 27 (0, 0)) (by (with_reducible repeat (first | refine blk_drewN ?_ _ | refine blk_drew ?_ | refine blk_alloc ?_ _)); exact BK193.out)) : gb193 ≠ gb206)); have n8_ := Aside0.mk ((by rw [hg]; exact Nat.ne_of_gt (blk_lt (g := gb193) (o := .cells #[.int .i64 t190, .int .i64 t191] 27 (0, 0)) (by (with_reducible repeat (first | refine blk_drewN ?_ _ | refine blk_drew ?_ | refine blk_alloc ?_ _)); exact BK193.out)) : gb206 ≠ gb193)); have n9_ := Aside0.mk ((by rw [hg]; exact Nat.ne_of_lt (blk_lt (g := gb202) (o := .cells #[.int .i64 t199, .int .i64 t200] 27 (0, 0)) (by (with_reducible repeat (first | refine blk_drewN ?_ _ | refine blk_drew ?_ | refine blk_alloc ?_ _)); exact BK202.out)) : gb202 ≠ gb206)); have n10_ := Aside0.mk ((by rw [hg]; exact Nat.ne_of_gt (blk_lt (g := gb202) (o := .cells #[.int .i64 t199, .int .i64 t200] 27 (0, 0)) (by (with_reducible repeat (first | refine blk_drewN ?_ _ | refine blk_drew ?_ | refine blk_alloc ?_ _)); exact BK202.out)) : gb206 ≠ gb202)); clear HO196; clear BK193; clear BK202; clear HB; have HO196 := n0_; have BK193 := n1_; have BK202 := n2_; have HB := n3_; have BK206 := n4_; have GW206 := n5_; have GE206 := n6_; have NB193_206 := n7_; have NB206_193 := n8_; have NB202_206 := n9_; have NB206_202 := n10_; clear n0_ n1_ n2_ n3_ n4_ n5_ n6_ n7_ n8_ n9_ n10_; clear hb hbox hg; have hnb32 := NB206_193.out; have hnc32 := NB193_206.out; have hnb33 := NB206_202.out; have hnc33 := NB202_206.out; have hcz34_0 : w31.cell? ⟨gb206, 0, none⟩ = some (.int .i64 0) := (blk_cell BK206.out 0).trans rfl; have hcz34_1 : w31.cell? ⟨gb206, 1, none⟩ = some (.int .i64 0) := (blk_cell BK206.out 1).trans rfl; have hfz34_0 := blk_frozen BK206.out 0; have hfz34_1 := blk_frozen BK206.out 1; have hcz35_0 : w31.cell? ⟨gb193, 0, none⟩ = some (.int .i64 t190) := (blk_cell BK193.out 0).trans rfl; have hcz35_1 : w31.cell? ⟨gb193, 1, none⟩ = some (.int .i64 t191) := (blk_cell BK193.out 1).trans rfl; have hfz35_0 := blk_frozen BK193.out 0; have hfz35_1 := blk_frozen BK193.out 1; obtain ⟨Ao36, co36, eo36⟩ := Kd.R_slice HO196.out; subst eo36) | ((with_reducible refine gate_callee (f := 15) rfl ?_); refine goesL_ (some 80) rfl rfl Try.func15 (by kernel_rfl) rfl #[.slice Ao36 y194.length co36, .agg #[.int .i64 t190, .int .i64 t191]] rfl (by (try simp only [List.map_toArray, List.map_cons, List.map_nil]); first | done | rfl | (simp only [List.length_drop, List.length_take]; rfl)) ?_; (with_reducible refine (tempo_Micros.calls k _ _ y194 t190 t191 t207 t208 _ ?side1 ?side2 A15.out).mono ?_); (case side1 => refine (Kd.R_reads' (e := 36) (base := w.heap.size) (ok := fun k_ => True) (n := y194.length) (c := co36) ?_).2.2; exact (by (with_reducible repeat (first | apply Kd.R_alloc | apply Kd.R_drewN | apply Kd.R_drew)); exact (Kd.R_mono (Kd.R_far (p := ⟨gb206, 1, none⟩) (Kd.R_far (p := ⟨gb206, 0, none⟩) (Kd.R_types HO196.out BK206.out (by decide)) (fun _ hk => hk.2) (.int .i64 t203)) (fun _ hk => hk.2) (.int .i64 t204)) (fun _ h_ => h_.1)))); (case side2 => exact (Kd.R_reads' HO196.out).2.1); rintro e w37 ⟨rfl, hb⟩; refine ⟨_, rfl, ?_⟩; have n0_ := Aside0.mk (Kd.R_below (by (with_reducible repeat (first | apply Kd.R_alloc | apply Kd.R_drewN | apply Kd.R_drew)); exact (Kd.R_mono (Kd.R_far (p := ⟨gb206, 1, none⟩) (Kd.R_far (p := ⟨gb206, 0, none⟩) (Kd.R_types HO196.out BK206.out (by decide)) (fun _ hk => hk.2) (.int .i64 t203)) (fun _ hk => hk.2) (.int .i64 t204)) (fun _ h_ => h_.1))) hb); have n1_ := Aside0.mk (blk_below (g := gb193) (o := .cells #[.int .i64 t190, .int .i64 t191] 27 (0, 0)) (by (with_reducible repeat (first | refine blk_drewN ?_ _ | refine blk_drew ?_ | refine blk_alloc ?_ _)); refine blk_far ?_ NB193_206.out _; (with_reducible repeat (first | refine blk_drewN ?_ _ | refine blk_drew ?_ | refine blk_alloc ?_ _)); refine blk_far ?_ NB193_206.out _; (with_reducible repeat (first | refine blk_drewN ?_ _ | refine blk_drew ?_ | refine blk_alloc ?_ _)); exact BK193.out) hb); have n2_ := Aside0.mk (blk_below (g := gb202) (o := .cells #[.int .i64 t199, .int .i64 t200] 27 (0, 0)) (by (with_reducible repeat (first | refine blk_drewN ?_ _ | refine blk_drew ?_ | refine blk_alloc ?_ _)); refine blk_far ?_ NB202_206.out _; (with_reducible repeat (first | refine blk_drewN ?_ _ | refine blk_drew ?_ | refine blk_alloc ?_ _)); refine blk_far ?_ NB202_206.out _; (with_reducible repeat (first | refine blk_drewN ?_ _ | refine blk_drew ?_ | refine blk_alloc ?_ _)); exact BK202.out) hb); have n3_ := Aside0.mk (blk_below (g := gb206) (o := .cells #[.int .i64 t203, .int .i64 t204] 27 (0, 0)) (by (with_reducible repeat (first | refine blk_drewN ?_ _ | refine blk_drew ?_ | refine blk_alloc ?_ _)); refine blk_put (cs := #[.int .i64 t203, .int .i64 0]) ?_ 1 _ rfl; (with_reducible repeat (first | refine blk_drewN ?_ _ | refine blk_drew ?_ | refine blk_alloc ?_ _)); refine blk_put (cs := #[.int .i64 0, .int .i64 0]) ?_ 0 _ rfl; (with_reducible repeat (first | refine blk_drewN ?_ _ | refine blk_drew ?_ | refine blk_alloc ?_ _)); exact BK206.out) hb); have n4_ := Aside0.mk (below_step (by repeat (first | (with_reducible first | exact HB.out | apply below_alloc | apply pw_below_drewN | apply below_drew1 | refine below_set ?_ GE193.out | refine below_set ?_ GE202.out | refine below_set ?_ GE206.out) | exact HB.out)) hb); clear HO196; clear BK193; clear BK202; clear BK206; clear HB; have HO196 := n0_; have BK193 := n1_; have BK202 := n2_; have BK206 := n3_; have HB := n4_; clear n0_ n1_ n2_ n3_ n4_; (try clear hb); (try clear hb2); (try clear hk); (try clear hi); have hcz38_0 : w37.cell? ⟨gb202, 0, none⟩ = some (.int .i64 t199) := (blk_cell BK202.out 0).trans rfl; have hcz38_1 : w37.cell? ⟨gb202, 1, none⟩ = some (.int .i64 t200) := (blk_cell BK202.out 1).trans rfl; have hfz38_0 := blk_frozen BK202.out 0; have hfz38_1 := blk_frozen BK202.out 1) | ((with_reducible refine gate_callee (f := 17) rfl ?_); refine goesL_ (some 86) rfl rfl Try.func17 (by kernel_rfl) rfl #[.slice Ao36 y194.length co36, .agg #[.int .i64 t199, .int .i64 t200]] rfl (by (try simp only [List.map_toArray, List.map_cons, List.map_nil]); first | done | rfl | (simp only [List.length_drop, List.length_take]; rfl)) ?_; (with_reducible refine (tempo_Rate.calls k _ _ y194 t199 t200 t209 t210 _ ?side1 ?side2 A16.out).mono ?_); (case side1 => repeat (first | exact (Kd.R_reads' HO196.out).2.2 | (with_reducible refine Kd.C_alloc ?_ _) | (with_reducible refine Kd.C_drewN ?_ _) | (with_reducible refine Kd.C_drew ?_))); (case side2 => exact (Kd.R_reads' HO196.out).2.1); rintro e w39 ⟨rfl, hb⟩; refine ⟨_, rfl, ?_⟩; have n0_ := Aside0.mk (Kd.R_below (by (with_reducible repeat (first | apply Kd.R_alloc | apply Kd.R_drewN | apply Kd.R_drew)); exact HO196.out) hb); have n1_ := Aside0.mk (blk_below (g := gb193) (o := .cells #[.int .i64 t190, .int .i64 t191] 27 (0, 0)) (by (with_reducible repeat (first | refine blk_drewN ?_ _ | refine blk_drew ?_ | refine blk_alloc ?_ _)); exact BK193.out) hb); have n2_ := Aside0.mk (blk_below (g := gb202) (o := .cells #[.int .i64 t199, .int .i64 t200] 27 (0, 0)) (by (with_reducible repeat (first | refine blk_drewN ?_ _ | refine blk_drew ?_ | refine blk_alloc ?_ _)); exact BK202.out) hb); have n3_ := Aside0.mk (blk_below (g := gb206) (o := .cells #[.int .i64 t203, .int .i64 t204] 27 (0, 0)) (by (with_reducible repeat (first | refine blk_drewN ?_ _ | refine blk_drew ?_ | refine blk_alloc ?_ _)); exact BK206.out) hb); have n4_ := Aside0.mk (below_step (by repeat (first | (with_reducible first | exact HB.out | apply below_alloc | apply pw_below_drewN | apply below_drew1 | refine below_set ?_ GE193.out | refine below_set ?_ GE202.out | refine below_set ?_ GE206.out) | exact HB.out)) hb); clear HO196; clear BK193; clear BK202; clear BK206; clear HB; have HO196 := n0_; have BK193 := n1_; have BK202 := n2_; have BK206 := n3_; have HB := n4_; clear n0_ n1_ n2_ n3_ n4_; (try clear hb); (try clear hb2); (try clear hk); (try clear hi); have hcz40_0 : w39.cell? ⟨gb206, 0, none⟩ = some (.int .i64 t203) := (blk_cell BK206.out 0).trans rfl; have hcz40_1 : w39.cell? ⟨gb206, 1, none⟩ = some (.int .i64 t204) := (blk_cell BK206.out 1).trans rfl; have hfz40_0 := blk_frozen BK206.out 0; have hfz40_1 := blk_frozen BK206.out 1) | ((with_reducible refine gate_callee (f := 17) rfl ?_); refine goesL_ (some 92) rfl rfl Try.func17 (by kernel_rfl) rfl #[.slice Ao36 y194.length co36, .agg #[.int .i64 t203, .int .i64 t204]] rfl (by (try simp only [List.map_toArray, List.map_cons, List.map_nil]); first | done | rfl | (simp only [List.length_drop, List.length_take]; rfl)) ?_; (with_reducible refine (tempo_Rate.calls k _ _ y194 t203 t204 t211 t212 _ ?side1 ?side2 A17.out).mono ?_); (case side1 => repeat (first | exact (Kd.R_reads' HO196.out).2.2 | (with_reducible refine Kd.C_alloc ?_ _) | (with_reducible refine Kd.C_drewN ?_ _) | (with_reducible refine Kd.C_drew ?_))); (case side2 => exact (Kd.R_reads' HO196.out).2.1); rintro e w41 ⟨rfl, hb⟩; refine ⟨_, rfl, ?_⟩; have n0_ := Aside0.mk (Kd.R_below (by (with_reducible repeat (first | apply Kd.R_alloc | apply Kd.R_drewN | apply Kd.R_drew)); exact HO196.out) hb); have n1_ := Aside0.mk (blk_below (g := gb193) (o := .cells #[.int .i64 t190, .int .i64 t191] 27 (0, 0)) (by (with_reducible repeat (first | refine blk_drewN ?_ _ | refine blk_drew ?_ | refine blk_alloc ?_ _)); exact BK193.out) hb); have n2_ := Aside0.mk (blk_below (g := gb202) (o := .cells #[.int .i64 t199, .int .i64 t200] 27 (0, 0)) (by (with_reducible repeat (first | refine blk_drewN ?_ _ | refine blk_drew ?_ | refine blk_alloc ?_ _)); exact BK202.out) hb); have n3_ := Aside0.mk (blk_below (g := gb206) (o := .cells #[.int .i64 t203, .int .i64 t204] 27 (0, 0)) (by (with_reducible repeat (first | refine blk_drewN ?_ _ | refine blk_drew ?_ | refine blk_alloc ?_ _)); exact BK206.out) hb); have n4_ := Aside0.mk (below_step (by repeat (first | (with_reducible first | exact HB.out | apply below_alloc | apply pw_below_drewN | apply below_drew1 | refine below_set ?_ GE193.out | refine below_set ?_ GE202.out | refine below_set ?_ GE206.out) | exact HB.out)) hb); clear HO196; clear BK193; clear BK202; clear BK206; clear HB; have HO196 := n0_; have BK193 := n1_; have BK202 := n2_; have BK206 := n3_; have HB := n4_; clear n0_ n1_ n2_ n3_ n4_; (try clear hb); (try clear hb2); (try clear hk); (try clear hi); have hcz42_0 : w41.cell? ⟨gb202, 0, none⟩ = some (.int .i64 t199) := (blk_cell BK202.out 0).trans rfl; have hcz42_1 : w41.cell? ⟨gb202, 1, none⟩ = some (.int .i64 t200) := (blk_cell BK202.out 1).trans rfl; have hfz42_0 := blk_frozen BK202.out 0; have hfz42_1 := blk_frozen BK202.out 1) | ((with_reducible refine gate_callee (f := 15) rfl ?_); refine goesL_ (some 98) rfl rfl Try.func15 (by kernel_rfl) rfl #[.slice Ao36 y194.length co36, .agg #[.int .i64 t199, .int .i64 t200]] rfl (by (try simp only [List.map_toArray, List.map_cons, List.map_nil]); first | done | rfl | (simp only [List.length_drop, List.length_take]; rfl)) ?_; (with_reducible refine (tempo_Micros.calls k _ _ y194 t199 t200 t213 t214 _ ?side1 ?side2 A18.out).mono ?_); (case side1 => repeat (first | exact (Kd.R_reads' HO196.out).2.2 | (with_reducible refine Kd.C_alloc ?_ _) | (with_reducible refine Kd.C_drewN ?_ _) | (with_reducible refine Kd.C_drew ?_))); (case side2 => exact (Kd.R_reads' HO196.out).2.1); rintro e w43 ⟨rfl, hb⟩; refine ⟨_, rfl, ?_⟩; have n0_ := Aside0.mk (Kd.R_below (by (with_reducible repeat (first | apply Kd.R_alloc | apply Kd.R_drewN | apply Kd.R_drew)); exact HO196.out) hb); have n1_ := Aside0.mk (blk_below (g := gb193) (o := .cells #[.int .i64 t190, .int .i64 t191] 27 (0, 0)) (by (with_reducible repeat (first | refine blk_drewN ?_ _ | refine blk_drew ?_ | refine blk_alloc ?_ _)); exact BK193.out) hb); have n2_ := Aside0.mk (blk_below (g := gb202) (o := .cells #[.int .i64 t199, .int .i64 t200] 27 (0, 0)) (by (with_reducible repeat (first | refine blk_drewN ?_ _ | refine blk_drew ?_ | refine blk_alloc ?_ _)); exact BK202.out) hb); have n3_ := Aside0.mk (blk_below (g := gb206) (o := .cells #[.int .i64 t203, .int .i64 t204] 27 (0, 0)) (by (with_reducible repeat (first | refine blk_drewN ?_ _ | refine blk_drew ?_ | refine blk_alloc ?_ _)); exact BK206.out) hb); have n4_ := Aside0.mk (below_step (by repeat (first | (with_reducible first | exact HB.out | apply below_alloc | apply pw_below_drewN | apply below_drew1 | refine below_set ?_ GE193.out | refine below_set ?_ GE202.out | refine below_set ?_ GE206.out) | exact HB.out)) hb); clear HO196; clear BK193; clear BK202; clear BK206; clear HB; have HO196 := n0_; have BK193 := n1_; have BK202 := n2_; have BK206 := n3_; have HB := n4_; clear n0_ n1_ n2_ n3_ n4_; (try clear hb); (try clear hb2); (try clear hk); (try clear hi)))
  (try simp only [Act.put, qa_, qz_, qs_])
  go_cut [125] (fun v125 wc => ∃ (kq : Nat) (x125_18 : Bool), v125 = .bool x125_18 ∧ Aside0 (partitalaw11_TempoMiddle.j0 kq t186 (wrap64 (100000 + t187)) (wrap64 (100000 + t188)) (wrap64 (1 + t189)) t197 (wrap64 (t197 + t198)) t209 t211 t213 x125_18 = some r) ∧ Aside0 (kq ≤ k) ∧ Aside0 (wc.heap[gb193]? = some (.cells #[.int .i64 t190, .int .i64 t191] 27 (0, 0))) ∧ Aside0 (wc.heap[gb202]? = some (.cells #[.int .i64 t199, .int .i64 t200] 27 (0, 0))) ∧ Aside0 (wc.heap[gb206]? = some (.cells #[.int .i64 t203, .int .i64 t204] 27 (0, 0))) ∧ Aside0 (Below w.heap.size w wc))
  case first =>
    have H := HC19.out
    clear HC19
    by_cases c44 : t208 = 0
    · rw [if_pos c44] at H
      have c44b0 : (t208 == 0) = true := beq_iff_eq.mpr c44
      have c44b1 : (t208 != 0) = false := bne_eq_false_iff_eq.mpr c44
      clear c44
      (first | rw [c44b0] | (simp only [i64_w, i32_w]; rw [c44b0]) | skip)
      by_cases c45 : t210 = 0
      · rw [if_pos c45] at H
        have c45b0 : (t210 == 0) = true := beq_iff_eq.mpr c45
        have c45b1 : (t210 != 0) = false := bne_eq_false_iff_eq.mpr c45
        clear c45
        by_cases c46 : t212 = 0
        · rw [if_pos c46] at H
          have c46b0 : (t212 == 0) = true := beq_iff_eq.mpr c46
          have c46b1 : (t212 != 0) = false := bne_eq_false_iff_eq.mpr c46
          clear c46
          by_cases c47 : t214 = 0
          · rw [if_pos c47] at H
            have c47b0 : (t214 == 0) = true := beq_iff_eq.mpr c47
            have c47b1 : (t214 != 0) = false := bne_eq_false_iff_eq.mpr c47
            clear c47
            have H' := Aside0.mk H
            clear H
            go_wp2
            go_meet
            case rel => exact ⟨_, ((t207 != (wrap64 (Int.tdiv (wrap64 ((wrap64 (2 * (wrap64 ((wrap64 (100000 + t187)) + (wrap64 (100000 + t188)))))) * (wrap64 (1 + t189)))) 96)))), (by first | rfl | (simp; done) | (simp [*]; done)), H', ⟨by first | omega | exact Nat.le_refl _⟩, ⟨by (with_reducible repeat (first | refine blk_drewN ?_ _ | refine blk_drew ?_ | refine blk_alloc ?_ _)); exact BK193.out⟩, ⟨by (with_reducible repeat (first | refine blk_drewN ?_ _ | refine blk_drew ?_ | refine blk_alloc ?_ _)); exact BK202.out⟩, ⟨by (with_reducible repeat (first | refine blk_drewN ?_ _ | refine blk_drew ?_ | refine blk_alloc ?_ _)); exact BK206.out⟩, ⟨by repeat (first | (with_reducible first | exact HB.out | apply below_alloc | apply pw_below_drewN | apply below_drew1 | refine below_set ?_ GE193.out | refine below_set ?_ GE202.out | refine below_set ?_ GE206.out) | exact HB.out)⟩⟩
          · rw [if_neg c47] at H
            have c47b0 : (t214 == 0) = false := beq_eq_false_iff_ne.mpr c47
            have c47b1 : (t214 != 0) = true := bne_iff_ne.mpr c47
            have H' := Aside0.mk H
            clear H
            go_wp2
            go_meet
            case rel => exact ⟨_, (true), (by first | rfl | (simp; done) | (simp [*]; done)), H', ⟨by first | omega | exact Nat.le_refl _⟩, ⟨by (with_reducible repeat (first | refine blk_drewN ?_ _ | refine blk_drew ?_ | refine blk_alloc ?_ _)); exact BK193.out⟩, ⟨by (with_reducible repeat (first | refine blk_drewN ?_ _ | refine blk_drew ?_ | refine blk_alloc ?_ _)); exact BK202.out⟩, ⟨by (with_reducible repeat (first | refine blk_drewN ?_ _ | refine blk_drew ?_ | refine blk_alloc ?_ _)); exact BK206.out⟩, ⟨by repeat (first | (with_reducible first | exact HB.out | apply below_alloc | apply pw_below_drewN | apply below_drew1 | refine below_set ?_ GE193.out | refine below_set ?_ GE202.out | refine below_set ?_ GE206.out) | exact HB.out)⟩⟩
        · rw [if_neg c46] at H
          have c46b0 : (t212 == 0) = false := beq_eq_false_iff_ne.mpr c46
          have c46b1 : (t212 != 0) = true := bne_iff_ne.mpr c46
          have H' := Aside0.mk H
          clear H
          go_wp2
          go_meet
          case rel => exact ⟨_, (true), (by first | rfl | (simp; done) | (simp [*]; done)), H', ⟨by first | omega | exact Nat.le_refl _⟩, ⟨by (with_reducible repeat (first | refine blk_drewN ?_ _ | refine blk_drew ?_ | refine blk_alloc ?_ _)); exact BK193.out⟩, ⟨by (with_reducible repeat (first | refine blk_drewN ?_ _ | refine blk_drew ?_ | refine blk_alloc ?_ _)); exact BK202.out⟩, ⟨by (with_reducible repeat (first | refine blk_drewN ?_ _ | refine blk_drew ?_ | refine blk_alloc ?_ _)); exact BK206.out⟩, ⟨by repeat (first | (with_reducible first | exact HB.out | apply below_alloc | apply pw_below_drewN | apply below_drew1 | refine below_set ?_ GE193.out | refine below_set ?_ GE202.out | refine below_set ?_ GE206.out) | exact HB.out)⟩⟩
      · rw [if_neg c45] at H
        have c45b0 : (t210 == 0) = false := beq_eq_false_iff_ne.mpr c45
        have c45b1 : (t210 != 0) = true := bne_iff_ne.mpr c45
        have H' := Aside0.mk H
        clear H
        go_wp2
        go_meet
        case rel => exact ⟨_, (true), (by first | rfl | (simp; done) | (simp [*]; done)), H', ⟨by first | omega | exact Nat.le_refl _⟩, ⟨by (with_reducible repeat (first | refine blk_drewN ?_ _ | refine blk_drew ?_ | refine blk_alloc ?_ _)); exact BK193.out⟩, ⟨by (with_reducible repeat (first | refine blk_drewN ?_ _ | refine blk_drew ?_ | refine blk_alloc ?_ _)); exact BK202.out⟩, ⟨by (with_reducible repeat (first | refine blk_drewN ?_ _ | refine blk_drew ?_ | refine blk_alloc ?_ _)); exact BK206.out⟩, ⟨by repeat (first | (with_reducible first | exact HB.out | apply below_alloc | apply pw_below_drewN | apply below_drew1 | refine below_set ?_ GE193.out | refine below_set ?_ GE202.out | refine below_set ?_ GE206.out) | exact HB.out)⟩⟩
    · rw [if_neg c44] at H
      have c44b0 : (t208 == 0) = false := beq_eq_false_iff_ne.mpr c44
      have c44b1 : (t208 != 0) = true := bne_iff_ne.mpr c44
      (first | rw [c44b0] | (simp only [i64_w, i32_w]; rw [c44b0]) | skip)
      have H' := Aside0.mk H
      clear H
      go_wp2
      go_meet
      case rel => exact ⟨_, (true), (by first | rfl | (simp; done) | (simp [*]; done)), H', ⟨by first | omega | exact Nat.le_refl _⟩, ⟨by (with_reducible repeat (first | refine blk_drewN ?_ _ | refine blk_drew ?_ | refine blk_alloc ?_ _)); exact BK193.out⟩, ⟨by (with_reducible repeat (first | refine blk_drewN ?_ _ | refine blk_drew ?_ | refine blk_alloc ?_ _)); exact BK202.out⟩, ⟨by (with_reducible repeat (first | refine blk_drewN ?_ _ | refine blk_drew ?_ | refine blk_alloc ?_ _)); exact BK206.out⟩, ⟨by repeat (first | (with_reducible first | exact HB.out | apply below_alloc | apply pw_below_drewN | apply below_drew1 | refine below_set ?_ GE193.out | refine below_set ?_ GE202.out | refine below_set ?_ GE206.out) | exact HB.out)⟩⟩
  case rest =>
    clear HC19
    try clear c1
    try clear c2
    try clear p2
    try clear c3
    try clear c4
    try clear c5
    try clear p6
    try clear c11
    try clear c13
    try clear c14
    try clear c15
    try clear c17
    try clear c28
    try clear c32
    try clear c33
    try clear c44
    try clear c44b0
    try clear c44b1
    try clear c45
    try clear c45b0
    try clear c45b1
    try clear c46
    try clear c46b0
    try clear c46b1
    try clear c47
    try clear c47b0
    try clear c47b1
    try clear hcz23_0
    try clear hcz23_1
    try clear hcz29_0
    try clear hcz29_1
    try clear hcz34_0
    try clear hcz34_1
    try clear hcz35_0
    try clear hcz35_1
    try clear hcz38_0
    try clear hcz38_1
    try clear hcz40_0
    try clear hcz40_1
    try clear hcz42_0
    try clear hcz42_1
    try clear hfz23_0
    try clear hfz23_1
    try clear hfz29_0
    try clear hfz29_1
    try clear hfz34_0
    try clear hfz34_1
    try clear hfz35_0
    try clear hfz35_1
    try clear hfz38_0
    try clear hfz38_1
    try clear hfz40_0
    try clear hfz40_1
    try clear hfz42_0
    try clear hfz42_1
    obtain ⟨kq, x125_18, rfl, HA, HJ18, BK193, BK202, BK206, HB⟩ := hcut
    cases kq with
    | zero => exact absurd HA.out (by simp [partitalaw11_TempoMiddle.j0])
    | succ kj18 =>
      have H := HA.out
      clear HA
      simp only [partitalaw11_TempoMiddle.j0] at H
      by_cases c48 : x125_18 = true
      · subst c48
        have H1 : none = some r := by rw [if_pos rfl] at H; exact H
        cases H1
      · replace c48 := Bool.eq_false_iff.mpr c48
        subst c48
        have H1 : (if t209 < (mn (wrap64 (100000 + t187)) (wrap64 (100000 + t188))) then none else (if t209 > (mx (wrap64 (100000 + t187)) (wrap64 (100000 + t188))) then none else (if (wrap64 (100000 + t187)) ≤ (wrap64 (100000 + t188)) then (if t209 > t211 then none else (if (wrap64 (100000 + t187)) ≥ (wrap64 (100000 + t188)) then (if t209 < t211 then none else (if t197 = 0 then (if t209 = (wrap64 (100000 + t187)) then (if t186 = true then (if (wrap64 ((wrap64 (t213 * 96)) - (wrap64 ((wrap64 (2 * t197)) * (wrap64 ((wrap64 (100000 + t187)) + t209)))))) ≤ (wrap64 (2 * t197)) then (if (wrap64 ((wrap64 (t213 * 96)) - (wrap64 ((wrap64 (2 * t197)) * (wrap64 ((wrap64 (100000 + t187)) + t209)))))) ≥ (-96) then (if (wrap64 (t197 + t198)) < (wrap64 (1 + t189)) then (some true) else (some (t211 == (wrap64 (100000 + t188))))) else none) else none) else none) else none) else (if t186 = true then (if (wrap64 ((wrap64 (t213 * 96)) - (wrap64 ((wrap64 (2 * t197)) * (wrap64 ((wrap64 (100000 + t187)) + t209)))))) ≤ (wrap64 (2 * t197)) then (if (wrap64 ((wrap64 (t213 * 96)) - (wrap64 ((wrap64 (2 * t197)) * (wrap64 ((wrap64 (100000 + t187)) + t209)))))) ≥ (-96) then (if (wrap64 (t197 + t198)) < (wrap64 (1 + t189)) then (some true) else (some (t211 == (wrap64 (100000 + t188))))) else none) else none) else none))) else (if t197 = 0 then (if t209 = (wrap64 (100000 + t187)) then (if t186 = true then (if (wrap64 ((wrap64 (t213 * 96)) - (wrap64 ((wrap64 (2 * t197)) * (wrap64 ((wrap64 (100000 + t187)) + t209)))))) ≤ (wrap64 (2 * t197)) then (if (wrap64 ((wrap64 (t213 * 96)) - (wrap64 ((wrap64 (2 * t197)) * (wrap64 ((wrap64 (100000 + t187)) + t209)))))) ≥ (-96) then (if (wrap64 (t197 + t198)) < (wrap64 (1 + t189)) then (some true) else (some (t211 == (wrap64 (100000 + t188))))) else none) else none) else none) else none) else (if t186 = true then (if (wrap64 ((wrap64 (t213 * 96)) - (wrap64 ((wrap64 (2 * t197)) * (wrap64 ((wrap64 (100000 + t187)) + t209)))))) ≤ (wrap64 (2 * t197)) then (if (wrap64 ((wrap64 (t213 * 96)) - (wrap64 ((wrap64 (2 * t197)) * (wrap64 ((wrap64 (100000 + t187)) + t209)))))) ≥ (-96) then (if (wrap64 (t197 + t198)) < (wrap64 (1 + t189)) then (some true) else (some (t211 == (wrap64 (100000 + t188))))) else none) else none) else none)))) else (if (wrap64 (100000 + t187)) ≥ (wrap64 (100000 + t188)) then (if t209 < t211 then none else (if t197 = 0 then (if t209 = (wrap64 (100000 + t187)) then (if t186 = true then (if (wrap64 ((wrap64 (t213 * 96)) - (wrap64 ((wrap64 (2 * t197)) * (wrap64 ((wrap64 (100000 + t187)) + t209)))))) ≤ (wrap64 (2 * t197)) then (if (wrap64 ((wrap64 (t213 * 96)) - (wrap64 ((wrap64 (2 * t197)) * (wrap64 ((wrap64 (100000 + t187)) + t209)))))) ≥ (-96) then (if (wrap64 (t197 + t198)) < (wrap64 (1 + t189)) then (some true) else (some (t211 == (wrap64 (100000 + t188))))) else none) else none) else none) else none) else (if t186 = true then (if (wrap64 ((wrap64 (t213 * 96)) - (wrap64 ((wrap64 (2 * t197)) * (wrap64 ((wrap64 (100000 + t187)) + t209)))))) ≤ (wrap64 (2 * t197)) then (if (wrap64 ((wrap64 (t213 * 96)) - (wrap64 ((wrap64 (2 * t197)) * (wrap64 ((wrap64 (100000 + t187)) + t209)))))) ≥ (-96) then (if (wrap64 (t197 + t198)) < (wrap64 (1 + t189)) then (some true) else (some (t211 == (wrap64 (100000 + t188))))) else none) else none) else none))) else (if t197 = 0 then (if t209 = (wrap64 (100000 + t187)) then (if t186 = true then (if (wrap64 ((wrap64 (t213 * 96)) - (wrap64 ((wrap64 (2 * t197)) * (wrap64 ((wrap64 (100000 + t187)) + t209)))))) ≤ (wrap64 (2 * t197)) then (if (wrap64 ((wrap64 (t213 * 96)) - (wrap64 ((wrap64 (2 * t197)) * (wrap64 ((wrap64 (100000 + t187)) + t209)))))) ≥ (-96) then (if (wrap64 (t197 + t198)) < (wrap64 (1 + t189)) then (some true) else (some (t211 == (wrap64 (100000 + t188))))) else none) else none) else none) else none) else (if t186 = true then (if (wrap64 ((wrap64 (t213 * 96)) - (wrap64 ((wrap64 (2 * t197)) * (wrap64 ((wrap64 (100000 + t187)) + t209)))))) ≤ (wrap64 (2 * t197)) then (if (wrap64 ((wrap64 (t213 * 96)) - (wrap64 ((wrap64 (2 * t197)) * (wrap64 ((wrap64 (100000 + t187)) + t209)))))) ≥ (-96) then (if (wrap64 (t197 + t198)) < (wrap64 (1 + t189)) then (some true) else (some (t211 == (wrap64 (100000 + t188))))) else none) else none) else none)))))) = some r := by rw [if_neg (show ¬ (false = true) by decide)] at H; exact H
        clear H
        have H := H1
        clear H1
        obtain ⟨ji49, hji49⟩ : ∃ j_ : Int, (mn (wrap64 (100000 + t187)) (wrap64 (100000 + t188))) = j_ := ⟨_, rfl⟩
        replace H : (if t209 < (ji49) then none else (if t209 > (mx (wrap64 (100000 + t187)) (wrap64 (100000 + t188))) then none else (if (wrap64 (100000 + t187)) ≤ (wrap64 (100000 + t188)) then (if t209 > t211 then none else (if (wrap64 (100000 + t187)) ≥ (wrap64 (100000 + t188)) then (if t209 < t211 then none else (if t197 = 0 then (if t209 = (wrap64 (100000 + t187)) then (if t186 = true then (if (wrap64 ((wrap64 (t213 * 96)) - (wrap64 ((wrap64 (2 * t197)) * (wrap64 ((wrap64 (100000 + t187)) + t209)))))) ≤ (wrap64 (2 * t197)) then (if (wrap64 ((wrap64 (t213 * 96)) - (wrap64 ((wrap64 (2 * t197)) * (wrap64 ((wrap64 (100000 + t187)) + t209)))))) ≥ (-96) then (if (wrap64 (t197 + t198)) < (wrap64 (1 + t189)) then (some true) else (some (t211 == (wrap64 (100000 + t188))))) else none) else none) else none) else none) else (if t186 = true then (if (wrap64 ((wrap64 (t213 * 96)) - (wrap64 ((wrap64 (2 * t197)) * (wrap64 ((wrap64 (100000 + t187)) + t209)))))) ≤ (wrap64 (2 * t197)) then (if (wrap64 ((wrap64 (t213 * 96)) - (wrap64 ((wrap64 (2 * t197)) * (wrap64 ((wrap64 (100000 + t187)) + t209)))))) ≥ (-96) then (if (wrap64 (t197 + t198)) < (wrap64 (1 + t189)) then (some true) else (some (t211 == (wrap64 (100000 + t188))))) else none) else none) else none))) else (if t197 = 0 then (if t209 = (wrap64 (100000 + t187)) then (if t186 = true then (if (wrap64 ((wrap64 (t213 * 96)) - (wrap64 ((wrap64 (2 * t197)) * (wrap64 ((wrap64 (100000 + t187)) + t209)))))) ≤ (wrap64 (2 * t197)) then (if (wrap64 ((wrap64 (t213 * 96)) - (wrap64 ((wrap64 (2 * t197)) * (wrap64 ((wrap64 (100000 + t187)) + t209)))))) ≥ (-96) then (if (wrap64 (t197 + t198)) < (wrap64 (1 + t189)) then (some true) else (some (t211 == (wrap64 (100000 + t188))))) else none) else none) else none) else none) else (if t186 = true then (if (wrap64 ((wrap64 (t213 * 96)) - (wrap64 ((wrap64 (2 * t197)) * (wrap64 ((wrap64 (100000 + t187)) + t209)))))) ≤ (wrap64 (2 * t197)) then (if (wrap64 ((wrap64 (t213 * 96)) - (wrap64 ((wrap64 (2 * t197)) * (wrap64 ((wrap64 (100000 + t187)) + t209)))))) ≥ (-96) then (if (wrap64 (t197 + t198)) < (wrap64 (1 + t189)) then (some true) else (some (t211 == (wrap64 (100000 + t188))))) else none) else none) else none)))) else (if (wrap64 (100000 + t187)) ≥ (wrap64 (100000 + t188)) then (if t209 < t211 then none else (if t197 = 0 then (if t209 = (wrap64 (100000 + t187)) then (if t186 = true then (if (wrap64 ((wrap64 (t213 * 96)) - (wrap64 ((wrap64 (2 * t197)) * (wrap64 ((wrap64 (100000 + t187)) + t209)))))) ≤ (wrap64 (2 * t197)) then (if (wrap64 ((wrap64 (t213 * 96)) - (wrap64 ((wrap64 (2 * t197)) * (wrap64 ((wrap64 (100000 + t187)) + t209)))))) ≥ (-96) then (if (wrap64 (t197 + t198)) < (wrap64 (1 + t189)) then (some true) else (some (t211 == (wrap64 (100000 + t188))))) else none) else none) else none) else none) else (if t186 = true then (if (wrap64 ((wrap64 (t213 * 96)) - (wrap64 ((wrap64 (2 * t197)) * (wrap64 ((wrap64 (100000 + t187)) + t209)))))) ≤ (wrap64 (2 * t197)) then (if (wrap64 ((wrap64 (t213 * 96)) - (wrap64 ((wrap64 (2 * t197)) * (wrap64 ((wrap64 (100000 + t187)) + t209)))))) ≥ (-96) then (if (wrap64 (t197 + t198)) < (wrap64 (1 + t189)) then (some true) else (some (t211 == (wrap64 (100000 + t188))))) else none) else none) else none))) else (if t197 = 0 then (if t209 = (wrap64 (100000 + t187)) then (if t186 = true then (if (wrap64 ((wrap64 (t213 * 96)) - (wrap64 ((wrap64 (2 * t197)) * (wrap64 ((wrap64 (100000 + t187)) + t209)))))) ≤ (wrap64 (2 * t197)) then (if (wrap64 ((wrap64 (t213 * 96)) - (wrap64 ((wrap64 (2 * t197)) * (wrap64 ((wrap64 (100000 + t187)) + t209)))))) ≥ (-96) then (if (wrap64 (t197 + t198)) < (wrap64 (1 + t189)) then (some true) else (some (t211 == (wrap64 (100000 + t188))))) else none) else none) else none) else none) else (if t186 = true then (if (wrap64 ((wrap64 (t213 * 96)) - (wrap64 ((wrap64 (2 * t197)) * (wrap64 ((wrap64 (100000 + t187)) + t209)))))) ≤ (wrap64 (2 * t197)) then (if (wrap64 ((wrap64 (t213 * 96)) - (wrap64 ((wrap64 (2 * t197)) * (wrap64 ((wrap64 (100000 + t187)) + t209)))))) ≥ (-96) then (if (wrap64 (t197 + t198)) < (wrap64 (1 + t189)) then (some true) else (some (t211 == (wrap64 (100000 + t188))))) else none) else none) else none)))))) = some r := by first | (rw [hji49] at H; exact H) | (simp only [hji49] at H ⊢; exact H)
        have hji49_ : (if (wrap64 (100000 + t188)) < (wrap64 (100000 + t187)) then (wrap64 (100000 + t188)) else (wrap64 (100000 + t187))) = ji49 := hji49
        by_cases c50 : t209 < (ji49)
        · rw [if_pos c50] at H
          cases H
        · rw [if_neg c50] at H
          have c50b0 : decide (t209 < (ji49)) = false := decide_eq_false c50
          clear c50
          obtain ⟨ji51, hji51⟩ : ∃ j_ : Int, (mx (wrap64 (100000 + t187)) (wrap64 (100000 + t188))) = j_ := ⟨_, rfl⟩
          replace H : (if t209 > (ji51) then none else (if (wrap64 (100000 + t187)) ≤ (wrap64 (100000 + t188)) then (if t209 > t211 then none else (if (wrap64 (100000 + t187)) ≥ (wrap64 (100000 + t188)) then (if t209 < t211 then none else (if t197 = 0 then (if t209 = (wrap64 (100000 + t187)) then (if t186 = true then (if (wrap64 ((wrap64 (t213 * 96)) - (wrap64 ((wrap64 (2 * t197)) * (wrap64 ((wrap64 (100000 + t187)) + t209)))))) ≤ (wrap64 (2 * t197)) then (if (wrap64 ((wrap64 (t213 * 96)) - (wrap64 ((wrap64 (2 * t197)) * (wrap64 ((wrap64 (100000 + t187)) + t209)))))) ≥ (-96) then (if (wrap64 (t197 + t198)) < (wrap64 (1 + t189)) then (some true) else (some (t211 == (wrap64 (100000 + t188))))) else none) else none) else none) else none) else (if t186 = true then (if (wrap64 ((wrap64 (t213 * 96)) - (wrap64 ((wrap64 (2 * t197)) * (wrap64 ((wrap64 (100000 + t187)) + t209)))))) ≤ (wrap64 (2 * t197)) then (if (wrap64 ((wrap64 (t213 * 96)) - (wrap64 ((wrap64 (2 * t197)) * (wrap64 ((wrap64 (100000 + t187)) + t209)))))) ≥ (-96) then (if (wrap64 (t197 + t198)) < (wrap64 (1 + t189)) then (some true) else (some (t211 == (wrap64 (100000 + t188))))) else none) else none) else none))) else (if t197 = 0 then (if t209 = (wrap64 (100000 + t187)) then (if t186 = true then (if (wrap64 ((wrap64 (t213 * 96)) - (wrap64 ((wrap64 (2 * t197)) * (wrap64 ((wrap64 (100000 + t187)) + t209)))))) ≤ (wrap64 (2 * t197)) then (if (wrap64 ((wrap64 (t213 * 96)) - (wrap64 ((wrap64 (2 * t197)) * (wrap64 ((wrap64 (100000 + t187)) + t209)))))) ≥ (-96) then (if (wrap64 (t197 + t198)) < (wrap64 (1 + t189)) then (some true) else (some (t211 == (wrap64 (100000 + t188))))) else none) else none) else none) else none) else (if t186 = true then (if (wrap64 ((wrap64 (t213 * 96)) - (wrap64 ((wrap64 (2 * t197)) * (wrap64 ((wrap64 (100000 + t187)) + t209)))))) ≤ (wrap64 (2 * t197)) then (if (wrap64 ((wrap64 (t213 * 96)) - (wrap64 ((wrap64 (2 * t197)) * (wrap64 ((wrap64 (100000 + t187)) + t209)))))) ≥ (-96) then (if (wrap64 (t197 + t198)) < (wrap64 (1 + t189)) then (some true) else (some (t211 == (wrap64 (100000 + t188))))) else none) else none) else none)))) else (if (wrap64 (100000 + t187)) ≥ (wrap64 (100000 + t188)) then (if t209 < t211 then none else (if t197 = 0 then (if t209 = (wrap64 (100000 + t187)) then (if t186 = true then (if (wrap64 ((wrap64 (t213 * 96)) - (wrap64 ((wrap64 (2 * t197)) * (wrap64 ((wrap64 (100000 + t187)) + t209)))))) ≤ (wrap64 (2 * t197)) then (if (wrap64 ((wrap64 (t213 * 96)) - (wrap64 ((wrap64 (2 * t197)) * (wrap64 ((wrap64 (100000 + t187)) + t209)))))) ≥ (-96) then (if (wrap64 (t197 + t198)) < (wrap64 (1 + t189)) then (some true) else (some (t211 == (wrap64 (100000 + t188))))) else none) else none) else none) else none) else (if t186 = true then (if (wrap64 ((wrap64 (t213 * 96)) - (wrap64 ((wrap64 (2 * t197)) * (wrap64 ((wrap64 (100000 + t187)) + t209)))))) ≤ (wrap64 (2 * t197)) then (if (wrap64 ((wrap64 (t213 * 96)) - (wrap64 ((wrap64 (2 * t197)) * (wrap64 ((wrap64 (100000 + t187)) + t209)))))) ≥ (-96) then (if (wrap64 (t197 + t198)) < (wrap64 (1 + t189)) then (some true) else (some (t211 == (wrap64 (100000 + t188))))) else none) else none) else none))) else (if t197 = 0 then (if t209 = (wrap64 (100000 + t187)) then (if t186 = true then (if (wrap64 ((wrap64 (t213 * 96)) - (wrap64 ((wrap64 (2 * t197)) * (wrap64 ((wrap64 (100000 + t187)) + t209)))))) ≤ (wrap64 (2 * t197)) then (if (wrap64 ((wrap64 (t213 * 96)) - (wrap64 ((wrap64 (2 * t197)) * (wrap64 ((wrap64 (100000 + t187)) + t209)))))) ≥ (-96) then (if (wrap64 (t197 + t198)) < (wrap64 (1 + t189)) then (some true) else (some (t211 == (wrap64 (100000 + t188))))) else none) else none) else none) else none) else (if t186 = true then (if (wrap64 ((wrap64 (t213 * 96)) - (wrap64 ((wrap64 (2 * t197)) * (wrap64 ((wrap64 (100000 + t187)) + t209)))))) ≤ (wrap64 (2 * t197)) then (if (wrap64 ((wrap64 (t213 * 96)) - (wrap64 ((wrap64 (2 * t197)) * (wrap64 ((wrap64 (100000 + t187)) + t209)))))) ≥ (-96) then (if (wrap64 (t197 + t198)) < (wrap64 (1 + t189)) then (some true) else (some (t211 == (wrap64 (100000 + t188))))) else none) else none) else none))))) = some r := by first | (rw [hji51] at H; exact H) | (simp only [hji51] at H ⊢; exact H)
          have hji51_ : (if (wrap64 (100000 + t187)) < (wrap64 (100000 + t188)) then (wrap64 (100000 + t188)) else (wrap64 (100000 + t187))) = ji51 := hji51
          by_cases c52 : t209 > (ji51)
          · rw [if_pos c52] at H
            cases H
          · rw [if_neg c52] at H
            have c52b0 : decide ((ji51) < t209) = false := decide_eq_false c52
            clear c52
            by_cases c53 : (wrap64 (100000 + t187)) ≤ (wrap64 (100000 + t188))
            · rw [if_pos c53] at H
              have c53b0 : decide ((wrap64 (100000 + t187)) ≤ (wrap64 (100000 + t188))) = true := decide_eq_true c53
              clear c53
              by_cases c54 : t209 > t211
              · rw [if_pos c54] at H
                cases H
              · rw [if_neg c54] at H
                have c54b0 : decide (t211 < t209) = false := decide_eq_false c54
                clear c54
                by_cases c55 : (wrap64 (100000 + t187)) ≥ (wrap64 (100000 + t188))
                · rw [if_pos c55] at H
                  have c55b0 : decide ((wrap64 (100000 + t188)) ≤ (wrap64 (100000 + t187))) = true := decide_eq_true c55
                  clear c55
                  by_cases c56 : t209 < t211
                  · rw [if_pos c56] at H
                    cases H
                  · rw [if_neg c56] at H
                    have c56b0 : decide (t209 < t211) = false := decide_eq_false c56
                    clear c56
                    by_cases c57 : t197 = 0
                    · rw [if_pos c57] at H
                      have c57b0 : (t197 == 0) = true := beq_iff_eq.mpr c57
                      have c57b1 : (t197 != 0) = false := bne_eq_false_iff_eq.mpr c57
                      clear c57
                      by_cases c58 : t209 = (wrap64 (100000 + t187))
                      · rw [if_pos c58] at H
                        have c58b0 : (t209 == (wrap64 (100000 + t187))) = true := beq_iff_eq.mpr c58
                        have c58b1 : (t209 != (wrap64 (100000 + t187))) = false := bne_eq_false_iff_eq.mpr c58
                        clear c58
                        by_cases c59 : t186 = true
                        · subst c59
                          have H1 : (if (wrap64 ((wrap64 (t213 * 96)) - (wrap64 ((wrap64 (2 * t197)) * (wrap64 ((wrap64 (100000 + t187)) + t209)))))) ≤ (wrap64 (2 * t197)) then (if (wrap64 ((wrap64 (t213 * 96)) - (wrap64 ((wrap64 (2 * t197)) * (wrap64 ((wrap64 (100000 + t187)) + t209)))))) ≥ (-96) then (if (wrap64 (t197 + t198)) < (wrap64 (1 + t189)) then (some true) else (some (t211 == (wrap64 (100000 + t188))))) else none) else none) = some r := by rw [if_pos rfl] at H; exact H
                          clear H
                          have H := H1
                          clear H1
                          by_cases c60 : (wrap64 ((wrap64 (t213 * 96)) - (wrap64 ((wrap64 (2 * t197)) * (wrap64 ((wrap64 (100000 + t187)) + t209)))))) ≤ (wrap64 (2 * t197))
                          · rw [if_pos c60] at H
                            have c60b0 : decide ((wrap64 ((wrap64 (t213 * 96)) - (wrap64 ((wrap64 (2 * t197)) * (wrap64 ((wrap64 (100000 + t187)) + t209)))))) ≤ (wrap64 (2 * t197))) = true := decide_eq_true c60
                            clear c60
                            by_cases c61 : (wrap64 ((wrap64 (t213 * 96)) - (wrap64 ((wrap64 (2 * t197)) * (wrap64 ((wrap64 (100000 + t187)) + t209)))))) ≥ (-96)
                            · rw [if_pos c61] at H
                              have c61b0 : decide ((-96) ≤ (wrap64 ((wrap64 (t213 * 96)) - (wrap64 ((wrap64 (2 * t197)) * (wrap64 ((wrap64 (100000 + t187)) + t209))))))) = true := decide_eq_true c61
                              clear c61
                              by_cases c62 : (wrap64 (t197 + t198)) < (wrap64 (1 + t189))
                              · rw [if_pos c62] at H
                                have c62b0 : decide ((wrap64 (t197 + t198)) < (wrap64 (1 + t189))) = true := decide_eq_true c62
                                clear c62
                                obtain rfl := Option.some.inj H
                                go_wp2
                                go_ret
                                exact ⟨by first | rfl | (simp [errW_none, errW_some] <;> rfl) | (simp only [← hji49, ← hji51]; first | rfl | (simp [errW_none, errW_some] <;> rfl)) | (simp [*, errW_none, errW_some] <;> rfl), by repeat (first | (with_reducible first | exact HB.out | apply below_alloc | apply pw_below_drewN | apply below_drew1 | refine below_set ?_ GE193.out | refine below_set ?_ GE202.out | refine below_set ?_ GE206.out) | exact HB.out)⟩
                              · rw [if_neg c62] at H
                                have c62b0 : decide ((wrap64 (t197 + t198)) < (wrap64 (1 + t189))) = false := decide_eq_false c62
                                clear c62
                                obtain rfl := Option.some.inj H
                                go_wp2
                                go_ret
                                exact ⟨by first | rfl | (simp [errW_none, errW_some] <;> rfl) | (simp only [← hji49, ← hji51]; first | rfl | (simp [errW_none, errW_some] <;> rfl)) | (simp [*, errW_none, errW_some] <;> rfl), by repeat (first | (with_reducible first | exact HB.out | apply below_alloc | apply pw_below_drewN | apply below_drew1 | refine below_set ?_ GE193.out | refine below_set ?_ GE202.out | refine below_set ?_ GE206.out) | exact HB.out)⟩
                            · rw [if_neg c61] at H
                              cases H
                          · rw [if_neg c60] at H
                            cases H
                        · replace c59 := Bool.eq_false_iff.mpr c59
                          subst c59
                          have H1 : none = some r := by rw [if_neg (show ¬ (false = true) by decide)] at H; exact H
                          cases H1
                      · rw [if_neg c58] at H
                        cases H
                    · rw [if_neg c57] at H
                      have c57b0 : (t197 == 0) = false := beq_eq_false_iff_ne.mpr c57
                      have c57b1 : (t197 != 0) = true := bne_iff_ne.mpr c57
                      by_cases c63 : t186 = true
                      · subst c63
                        have H1 : (if (wrap64 ((wrap64 (t213 * 96)) - (wrap64 ((wrap64 (2 * t197)) * (wrap64 ((wrap64 (100000 + t187)) + t209)))))) ≤ (wrap64 (2 * t197)) then (if (wrap64 ((wrap64 (t213 * 96)) - (wrap64 ((wrap64 (2 * t197)) * (wrap64 ((wrap64 (100000 + t187)) + t209)))))) ≥ (-96) then (if (wrap64 (t197 + t198)) < (wrap64 (1 + t189)) then (some true) else (some (t211 == (wrap64 (100000 + t188))))) else none) else none) = some r := by rw [if_pos rfl] at H; exact H
                        clear H
                        have H := H1
                        clear H1
                        by_cases c64 : (wrap64 ((wrap64 (t213 * 96)) - (wrap64 ((wrap64 (2 * t197)) * (wrap64 ((wrap64 (100000 + t187)) + t209)))))) ≤ (wrap64 (2 * t197))
                        · rw [if_pos c64] at H
                          have c64b0 : decide ((wrap64 ((wrap64 (t213 * 96)) - (wrap64 ((wrap64 (2 * t197)) * (wrap64 ((wrap64 (100000 + t187)) + t209)))))) ≤ (wrap64 (2 * t197))) = true := decide_eq_true c64
                          clear c64
                          by_cases c65 : (wrap64 ((wrap64 (t213 * 96)) - (wrap64 ((wrap64 (2 * t197)) * (wrap64 ((wrap64 (100000 + t187)) + t209)))))) ≥ (-96)
                          · rw [if_pos c65] at H
                            have c65b0 : decide ((-96) ≤ (wrap64 ((wrap64 (t213 * 96)) - (wrap64 ((wrap64 (2 * t197)) * (wrap64 ((wrap64 (100000 + t187)) + t209))))))) = true := decide_eq_true c65
                            clear c65
                            by_cases c66 : (wrap64 (t197 + t198)) < (wrap64 (1 + t189))
                            · rw [if_pos c66] at H
                              have c66b0 : decide ((wrap64 (t197 + t198)) < (wrap64 (1 + t189))) = true := decide_eq_true c66
                              clear c66
                              obtain rfl := Option.some.inj H
                              go_wp2
                              go_ret
                              exact ⟨by first | rfl | (simp [errW_none, errW_some] <;> rfl) | (simp only [← hji49, ← hji51]; first | rfl | (simp [errW_none, errW_some] <;> rfl)) | (simp [*, errW_none, errW_some] <;> rfl), by repeat (first | (with_reducible first | exact HB.out | apply below_alloc | apply pw_below_drewN | apply below_drew1 | refine below_set ?_ GE193.out | refine below_set ?_ GE202.out | refine below_set ?_ GE206.out) | exact HB.out)⟩
                            · rw [if_neg c66] at H
                              have c66b0 : decide ((wrap64 (t197 + t198)) < (wrap64 (1 + t189))) = false := decide_eq_false c66
                              clear c66
                              obtain rfl := Option.some.inj H
                              go_wp2
                              go_ret
                              exact ⟨by first | rfl | (simp [errW_none, errW_some] <;> rfl) | (simp only [← hji49, ← hji51]; first | rfl | (simp [errW_none, errW_some] <;> rfl)) | (simp [*, errW_none, errW_some] <;> rfl), by repeat (first | (with_reducible first | exact HB.out | apply below_alloc | apply pw_below_drewN | apply below_drew1 | refine below_set ?_ GE193.out | refine below_set ?_ GE202.out | refine below_set ?_ GE206.out) | exact HB.out)⟩
                          · rw [if_neg c65] at H
                            cases H
                        · rw [if_neg c64] at H
                          cases H
                      · replace c63 := Bool.eq_false_iff.mpr c63
                        subst c63
                        have H1 : none = some r := by rw [if_neg (show ¬ (false = true) by decide)] at H; exact H
                        cases H1
                · rw [if_neg c55] at H
                  have c55b0 : decide ((wrap64 (100000 + t188)) ≤ (wrap64 (100000 + t187))) = false := decide_eq_false c55
                  clear c55
                  by_cases c67 : t197 = 0
                  · rw [if_pos c67] at H
                    have c67b0 : (t197 == 0) = true := beq_iff_eq.mpr c67
                    have c67b1 : (t197 != 0) = false := bne_eq_false_iff_eq.mpr c67
                    clear c67
                    by_cases c68 : t209 = (wrap64 (100000 + t187))
                    · rw [if_pos c68] at H
                      have c68b0 : (t209 == (wrap64 (100000 + t187))) = true := beq_iff_eq.mpr c68
                      have c68b1 : (t209 != (wrap64 (100000 + t187))) = false := bne_eq_false_iff_eq.mpr c68
                      clear c68
                      by_cases c69 : t186 = true
                      · subst c69
                        have H1 : (if (wrap64 ((wrap64 (t213 * 96)) - (wrap64 ((wrap64 (2 * t197)) * (wrap64 ((wrap64 (100000 + t187)) + t209)))))) ≤ (wrap64 (2 * t197)) then (if (wrap64 ((wrap64 (t213 * 96)) - (wrap64 ((wrap64 (2 * t197)) * (wrap64 ((wrap64 (100000 + t187)) + t209)))))) ≥ (-96) then (if (wrap64 (t197 + t198)) < (wrap64 (1 + t189)) then (some true) else (some (t211 == (wrap64 (100000 + t188))))) else none) else none) = some r := by rw [if_pos rfl] at H; exact H
                        clear H
                        have H := H1
                        clear H1
                        by_cases c70 : (wrap64 ((wrap64 (t213 * 96)) - (wrap64 ((wrap64 (2 * t197)) * (wrap64 ((wrap64 (100000 + t187)) + t209)))))) ≤ (wrap64 (2 * t197))
                        · rw [if_pos c70] at H
                          have c70b0 : decide ((wrap64 ((wrap64 (t213 * 96)) - (wrap64 ((wrap64 (2 * t197)) * (wrap64 ((wrap64 (100000 + t187)) + t209)))))) ≤ (wrap64 (2 * t197))) = true := decide_eq_true c70
                          clear c70
                          by_cases c71 : (wrap64 ((wrap64 (t213 * 96)) - (wrap64 ((wrap64 (2 * t197)) * (wrap64 ((wrap64 (100000 + t187)) + t209)))))) ≥ (-96)
                          · rw [if_pos c71] at H
                            have c71b0 : decide ((-96) ≤ (wrap64 ((wrap64 (t213 * 96)) - (wrap64 ((wrap64 (2 * t197)) * (wrap64 ((wrap64 (100000 + t187)) + t209))))))) = true := decide_eq_true c71
                            clear c71
                            by_cases c72 : (wrap64 (t197 + t198)) < (wrap64 (1 + t189))
                            · rw [if_pos c72] at H
                              have c72b0 : decide ((wrap64 (t197 + t198)) < (wrap64 (1 + t189))) = true := decide_eq_true c72
                              clear c72
                              obtain rfl := Option.some.inj H
                              go_wp2
                              go_ret
                              exact ⟨by first | rfl | (simp [errW_none, errW_some] <;> rfl) | (simp only [← hji49, ← hji51]; first | rfl | (simp [errW_none, errW_some] <;> rfl)) | (simp [*, errW_none, errW_some] <;> rfl), by repeat (first | (with_reducible first | exact HB.out | apply below_alloc | apply pw_below_drewN | apply below_drew1 | refine below_set ?_ GE193.out | refine below_set ?_ GE202.out | refine below_set ?_ GE206.out) | exact HB.out)⟩
                            · rw [if_neg c72] at H
                              have c72b0 : decide ((wrap64 (t197 + t198)) < (wrap64 (1 + t189))) = false := decide_eq_false c72
                              clear c72
                              obtain rfl := Option.some.inj H
                              go_wp2
                              go_ret
                              exact ⟨by first | rfl | (simp [errW_none, errW_some] <;> rfl) | (simp only [← hji49, ← hji51]; first | rfl | (simp [errW_none, errW_some] <;> rfl)) | (simp [*, errW_none, errW_some] <;> rfl), by repeat (first | (with_reducible first | exact HB.out | apply below_alloc | apply pw_below_drewN | apply below_drew1 | refine below_set ?_ GE193.out | refine below_set ?_ GE202.out | refine below_set ?_ GE206.out) | exact HB.out)⟩
                          · rw [if_neg c71] at H
                            cases H
                        · rw [if_neg c70] at H
                          cases H
                      · replace c69 := Bool.eq_false_iff.mpr c69
                        subst c69
                        have H1 : none = some r := by rw [if_neg (show ¬ (false = true) by decide)] at H; exact H
                        cases H1
                    · rw [if_neg c68] at H
                      cases H
                  · rw [if_neg c67] at H
                    have c67b0 : (t197 == 0) = false := beq_eq_false_iff_ne.mpr c67
                    have c67b1 : (t197 != 0) = true := bne_iff_ne.mpr c67
                    by_cases c73 : t186 = true
                    · subst c73
                      have H1 : (if (wrap64 ((wrap64 (t213 * 96)) - (wrap64 ((wrap64 (2 * t197)) * (wrap64 ((wrap64 (100000 + t187)) + t209)))))) ≤ (wrap64 (2 * t197)) then (if (wrap64 ((wrap64 (t213 * 96)) - (wrap64 ((wrap64 (2 * t197)) * (wrap64 ((wrap64 (100000 + t187)) + t209)))))) ≥ (-96) then (if (wrap64 (t197 + t198)) < (wrap64 (1 + t189)) then (some true) else (some (t211 == (wrap64 (100000 + t188))))) else none) else none) = some r := by rw [if_pos rfl] at H; exact H
                      clear H
                      have H := H1
                      clear H1
                      by_cases c74 : (wrap64 ((wrap64 (t213 * 96)) - (wrap64 ((wrap64 (2 * t197)) * (wrap64 ((wrap64 (100000 + t187)) + t209)))))) ≤ (wrap64 (2 * t197))
                      · rw [if_pos c74] at H
                        have c74b0 : decide ((wrap64 ((wrap64 (t213 * 96)) - (wrap64 ((wrap64 (2 * t197)) * (wrap64 ((wrap64 (100000 + t187)) + t209)))))) ≤ (wrap64 (2 * t197))) = true := decide_eq_true c74
                        clear c74
                        by_cases c75 : (wrap64 ((wrap64 (t213 * 96)) - (wrap64 ((wrap64 (2 * t197)) * (wrap64 ((wrap64 (100000 + t187)) + t209)))))) ≥ (-96)
                        · rw [if_pos c75] at H
                          have c75b0 : decide ((-96) ≤ (wrap64 ((wrap64 (t213 * 96)) - (wrap64 ((wrap64 (2 * t197)) * (wrap64 ((wrap64 (100000 + t187)) + t209))))))) = true := decide_eq_true c75
                          clear c75
                          by_cases c76 : (wrap64 (t197 + t198)) < (wrap64 (1 + t189))
                          · rw [if_pos c76] at H
                            have c76b0 : decide ((wrap64 (t197 + t198)) < (wrap64 (1 + t189))) = true := decide_eq_true c76
                            clear c76
                            obtain rfl := Option.some.inj H
                            go_wp2
                            go_ret
                            exact ⟨by first | rfl | (simp [errW_none, errW_some] <;> rfl) | (simp only [← hji49, ← hji51]; first | rfl | (simp [errW_none, errW_some] <;> rfl)) | (simp [*, errW_none, errW_some] <;> rfl), by repeat (first | (with_reducible first | exact HB.out | apply below_alloc | apply pw_below_drewN | apply below_drew1 | refine below_set ?_ GE193.out | refine below_set ?_ GE202.out | refine below_set ?_ GE206.out) | exact HB.out)⟩
                          · rw [if_neg c76] at H
                            have c76b0 : decide ((wrap64 (t197 + t198)) < (wrap64 (1 + t189))) = false := decide_eq_false c76
                            clear c76
                            obtain rfl := Option.some.inj H
                            go_wp2
                            go_ret
                            exact ⟨by first | rfl | (simp [errW_none, errW_some] <;> rfl) | (simp only [← hji49, ← hji51]; first | rfl | (simp [errW_none, errW_some] <;> rfl)) | (simp [*, errW_none, errW_some] <;> rfl), by repeat (first | (with_reducible first | exact HB.out | apply below_alloc | apply pw_below_drewN | apply below_drew1 | refine below_set ?_ GE193.out | refine below_set ?_ GE202.out | refine below_set ?_ GE206.out) | exact HB.out)⟩
                        · rw [if_neg c75] at H
                          cases H
                      · rw [if_neg c74] at H
                        cases H
                    · replace c73 := Bool.eq_false_iff.mpr c73
                      subst c73
                      have H1 : none = some r := by rw [if_neg (show ¬ (false = true) by decide)] at H; exact H
                      cases H1
            · rw [if_neg c53] at H
              have c53b0 : decide ((wrap64 (100000 + t187)) ≤ (wrap64 (100000 + t188))) = false := decide_eq_false c53
              clear c53
              by_cases c77 : (wrap64 (100000 + t187)) ≥ (wrap64 (100000 + t188))
              · rw [if_pos c77] at H
                have c77b0 : decide ((wrap64 (100000 + t188)) ≤ (wrap64 (100000 + t187))) = true := decide_eq_true c77
                clear c77
                by_cases c78 : t209 < t211
                · rw [if_pos c78] at H
                  cases H
                · rw [if_neg c78] at H
                  have c78b0 : decide (t209 < t211) = false := decide_eq_false c78
                  clear c78
                  by_cases c79 : t197 = 0
                  · rw [if_pos c79] at H
                    have c79b0 : (t197 == 0) = true := beq_iff_eq.mpr c79
                    have c79b1 : (t197 != 0) = false := bne_eq_false_iff_eq.mpr c79
                    clear c79
                    by_cases c80 : t209 = (wrap64 (100000 + t187))
                    · rw [if_pos c80] at H
                      have c80b0 : (t209 == (wrap64 (100000 + t187))) = true := beq_iff_eq.mpr c80
                      have c80b1 : (t209 != (wrap64 (100000 + t187))) = false := bne_eq_false_iff_eq.mpr c80
                      clear c80
                      by_cases c81 : t186 = true
                      · subst c81
                        have H1 : (if (wrap64 ((wrap64 (t213 * 96)) - (wrap64 ((wrap64 (2 * t197)) * (wrap64 ((wrap64 (100000 + t187)) + t209)))))) ≤ (wrap64 (2 * t197)) then (if (wrap64 ((wrap64 (t213 * 96)) - (wrap64 ((wrap64 (2 * t197)) * (wrap64 ((wrap64 (100000 + t187)) + t209)))))) ≥ (-96) then (if (wrap64 (t197 + t198)) < (wrap64 (1 + t189)) then (some true) else (some (t211 == (wrap64 (100000 + t188))))) else none) else none) = some r := by rw [if_pos rfl] at H; exact H
                        clear H
                        have H := H1
                        clear H1
                        by_cases c82 : (wrap64 ((wrap64 (t213 * 96)) - (wrap64 ((wrap64 (2 * t197)) * (wrap64 ((wrap64 (100000 + t187)) + t209)))))) ≤ (wrap64 (2 * t197))
                        · rw [if_pos c82] at H
                          have c82b0 : decide ((wrap64 ((wrap64 (t213 * 96)) - (wrap64 ((wrap64 (2 * t197)) * (wrap64 ((wrap64 (100000 + t187)) + t209)))))) ≤ (wrap64 (2 * t197))) = true := decide_eq_true c82
                          clear c82
                          by_cases c83 : (wrap64 ((wrap64 (t213 * 96)) - (wrap64 ((wrap64 (2 * t197)) * (wrap64 ((wrap64 (100000 + t187)) + t209)))))) ≥ (-96)
                          · rw [if_pos c83] at H
                            have c83b0 : decide ((-96) ≤ (wrap64 ((wrap64 (t213 * 96)) - (wrap64 ((wrap64 (2 * t197)) * (wrap64 ((wrap64 (100000 + t187)) + t209))))))) = true := decide_eq_true c83
                            clear c83
                            by_cases c84 : (wrap64 (t197 + t198)) < (wrap64 (1 + t189))
                            · rw [if_pos c84] at H
                              have c84b0 : decide ((wrap64 (t197 + t198)) < (wrap64 (1 + t189))) = true := decide_eq_true c84
                              clear c84
                              obtain rfl := Option.some.inj H
                              go_wp2
                              go_ret
                              exact ⟨by first | rfl | (simp [errW_none, errW_some] <;> rfl) | (simp only [← hji49, ← hji51]; first | rfl | (simp [errW_none, errW_some] <;> rfl)) | (simp [*, errW_none, errW_some] <;> rfl), by repeat (first | (with_reducible first | exact HB.out | apply below_alloc | apply pw_below_drewN | apply below_drew1 | refine below_set ?_ GE193.out | refine below_set ?_ GE202.out | refine below_set ?_ GE206.out) | exact HB.out)⟩
                            · rw [if_neg c84] at H
                              have c84b0 : decide ((wrap64 (t197 + t198)) < (wrap64 (1 + t189))) = false := decide_eq_false c84
                              clear c84
                              obtain rfl := Option.some.inj H
                              go_wp2
                              go_ret
                              exact ⟨by first | rfl | (simp [errW_none, errW_some] <;> rfl) | (simp only [← hji49, ← hji51]; first | rfl | (simp [errW_none, errW_some] <;> rfl)) | (simp [*, errW_none, errW_some] <;> rfl), by repeat (first | (with_reducible first | exact HB.out | apply below_alloc | apply pw_below_drewN | apply below_drew1 | refine below_set ?_ GE193.out | refine below_set ?_ GE202.out | refine below_set ?_ GE206.out) | exact HB.out)⟩
                          · rw [if_neg c83] at H
                            cases H
                        · rw [if_neg c82] at H
                          cases H
                      · replace c81 := Bool.eq_false_iff.mpr c81
                        subst c81
                        have H1 : none = some r := by rw [if_neg (show ¬ (false = true) by decide)] at H; exact H
                        cases H1
                    · rw [if_neg c80] at H
                      cases H
                  · rw [if_neg c79] at H
                    have c79b0 : (t197 == 0) = false := beq_eq_false_iff_ne.mpr c79
                    have c79b1 : (t197 != 0) = true := bne_iff_ne.mpr c79
                    by_cases c85 : t186 = true
                    · subst c85
                      have H1 : (if (wrap64 ((wrap64 (t213 * 96)) - (wrap64 ((wrap64 (2 * t197)) * (wrap64 ((wrap64 (100000 + t187)) + t209)))))) ≤ (wrap64 (2 * t197)) then (if (wrap64 ((wrap64 (t213 * 96)) - (wrap64 ((wrap64 (2 * t197)) * (wrap64 ((wrap64 (100000 + t187)) + t209)))))) ≥ (-96) then (if (wrap64 (t197 + t198)) < (wrap64 (1 + t189)) then (some true) else (some (t211 == (wrap64 (100000 + t188))))) else none) else none) = some r := by rw [if_pos rfl] at H; exact H
                      clear H
                      have H := H1
                      clear H1
                      by_cases c86 : (wrap64 ((wrap64 (t213 * 96)) - (wrap64 ((wrap64 (2 * t197)) * (wrap64 ((wrap64 (100000 + t187)) + t209)))))) ≤ (wrap64 (2 * t197))
                      · rw [if_pos c86] at H
                        have c86b0 : decide ((wrap64 ((wrap64 (t213 * 96)) - (wrap64 ((wrap64 (2 * t197)) * (wrap64 ((wrap64 (100000 + t187)) + t209)))))) ≤ (wrap64 (2 * t197))) = true := decide_eq_true c86
                        clear c86
                        by_cases c87 : (wrap64 ((wrap64 (t213 * 96)) - (wrap64 ((wrap64 (2 * t197)) * (wrap64 ((wrap64 (100000 + t187)) + t209)))))) ≥ (-96)
                        · rw [if_pos c87] at H
                          have c87b0 : decide ((-96) ≤ (wrap64 ((wrap64 (t213 * 96)) - (wrap64 ((wrap64 (2 * t197)) * (wrap64 ((wrap64 (100000 + t187)) + t209))))))) = true := decide_eq_true c87
                          clear c87
                          by_cases c88 : (wrap64 (t197 + t198)) < (wrap64 (1 + t189))
                          · rw [if_pos c88] at H
                            have c88b0 : decide ((wrap64 (t197 + t198)) < (wrap64 (1 + t189))) = true := decide_eq_true c88
                            clear c88
                            obtain rfl := Option.some.inj H
                            go_wp2
                            go_ret
                            exact ⟨by first | rfl | (simp [errW_none, errW_some] <;> rfl) | (simp only [← hji49, ← hji51]; first | rfl | (simp [errW_none, errW_some] <;> rfl)) | (simp [*, errW_none, errW_some] <;> rfl), by repeat (first | (with_reducible first | exact HB.out | apply below_alloc | apply pw_below_drewN | apply below_drew1 | refine below_set ?_ GE193.out | refine below_set ?_ GE202.out | refine below_set ?_ GE206.out) | exact HB.out)⟩
                          · rw [if_neg c88] at H
                            have c88b0 : decide ((wrap64 (t197 + t198)) < (wrap64 (1 + t189))) = false := decide_eq_false c88
                            clear c88
                            obtain rfl := Option.some.inj H
                            go_wp2
                            go_ret
                            exact ⟨by first | rfl | (simp [errW_none, errW_some] <;> rfl) | (simp only [← hji49, ← hji51]; first | rfl | (simp [errW_none, errW_some] <;> rfl)) | (simp [*, errW_none, errW_some] <;> rfl), by repeat (first | (with_reducible first | exact HB.out | apply below_alloc | apply pw_below_drewN | apply below_drew1 | refine below_set ?_ GE193.out | refine below_set ?_ GE202.out | refine below_set ?_ GE206.out) | exact HB.out)⟩
                        · rw [if_neg c87] at H
                          cases H
                      · rw [if_neg c86] at H
                        cases H
                    · replace c85 := Bool.eq_false_iff.mpr c85
                      subst c85
                      have H1 : none = some r := by rw [if_neg (show ¬ (false = true) by decide)] at H; exact H
                      cases H1
              · rw [if_neg c77] at H
                have c77b0 : decide ((wrap64 (100000 + t188)) ≤ (wrap64 (100000 + t187))) = false := decide_eq_false c77
                clear c77
                by_cases c89 : t197 = 0
                · rw [if_pos c89] at H
                  have c89b0 : (t197 == 0) = true := beq_iff_eq.mpr c89
                  have c89b1 : (t197 != 0) = false := bne_eq_false_iff_eq.mpr c89
                  clear c89
                  by_cases c90 : t209 = (wrap64 (100000 + t187))
                  · rw [if_pos c90] at H
                    have c90b0 : (t209 == (wrap64 (100000 + t187))) = true := beq_iff_eq.mpr c90
                    have c90b1 : (t209 != (wrap64 (100000 + t187))) = false := bne_eq_false_iff_eq.mpr c90
                    clear c90
                    by_cases c91 : t186 = true
                    · subst c91
                      have H1 : (if (wrap64 ((wrap64 (t213 * 96)) - (wrap64 ((wrap64 (2 * t197)) * (wrap64 ((wrap64 (100000 + t187)) + t209)))))) ≤ (wrap64 (2 * t197)) then (if (wrap64 ((wrap64 (t213 * 96)) - (wrap64 ((wrap64 (2 * t197)) * (wrap64 ((wrap64 (100000 + t187)) + t209)))))) ≥ (-96) then (if (wrap64 (t197 + t198)) < (wrap64 (1 + t189)) then (some true) else (some (t211 == (wrap64 (100000 + t188))))) else none) else none) = some r := by rw [if_pos rfl] at H; exact H
                      clear H
                      have H := H1
                      clear H1
                      by_cases c92 : (wrap64 ((wrap64 (t213 * 96)) - (wrap64 ((wrap64 (2 * t197)) * (wrap64 ((wrap64 (100000 + t187)) + t209)))))) ≤ (wrap64 (2 * t197))
                      · rw [if_pos c92] at H
                        have c92b0 : decide ((wrap64 ((wrap64 (t213 * 96)) - (wrap64 ((wrap64 (2 * t197)) * (wrap64 ((wrap64 (100000 + t187)) + t209)))))) ≤ (wrap64 (2 * t197))) = true := decide_eq_true c92
                        clear c92
                        by_cases c93 : (wrap64 ((wrap64 (t213 * 96)) - (wrap64 ((wrap64 (2 * t197)) * (wrap64 ((wrap64 (100000 + t187)) + t209)))))) ≥ (-96)
                        · rw [if_pos c93] at H
                          have c93b0 : decide ((-96) ≤ (wrap64 ((wrap64 (t213 * 96)) - (wrap64 ((wrap64 (2 * t197)) * (wrap64 ((wrap64 (100000 + t187)) + t209))))))) = true := decide_eq_true c93
                          clear c93
                          by_cases c94 : (wrap64 (t197 + t198)) < (wrap64 (1 + t189))
                          · rw [if_pos c94] at H
                            have c94b0 : decide ((wrap64 (t197 + t198)) < (wrap64 (1 + t189))) = true := decide_eq_true c94
                            clear c94
                            obtain rfl := Option.some.inj H
                            go_wp2
                            go_ret
                            exact ⟨by first | rfl | (simp [errW_none, errW_some] <;> rfl) | (simp only [← hji49, ← hji51]; first | rfl | (simp [errW_none, errW_some] <;> rfl)) | (simp [*, errW_none, errW_some] <;> rfl), by repeat (first | (with_reducible first | exact HB.out | apply below_alloc | apply pw_below_drewN | apply below_drew1 | refine below_set ?_ GE193.out | refine below_set ?_ GE202.out | refine below_set ?_ GE206.out) | exact HB.out)⟩
                          · rw [if_neg c94] at H
                            have c94b0 : decide ((wrap64 (t197 + t198)) < (wrap64 (1 + t189))) = false := decide_eq_false c94
                            clear c94
                            obtain rfl := Option.some.inj H
                            go_wp2
                            go_ret
                            exact ⟨by first | rfl | (simp [errW_none, errW_some] <;> rfl) | (simp only [← hji49, ← hji51]; first | rfl | (simp [errW_none, errW_some] <;> rfl)) | (simp [*, errW_none, errW_some] <;> rfl), by repeat (first | (with_reducible first | exact HB.out | apply below_alloc | apply pw_below_drewN | apply below_drew1 | refine below_set ?_ GE193.out | refine below_set ?_ GE202.out | refine below_set ?_ GE206.out) | exact HB.out)⟩
                        · rw [if_neg c93] at H
                          cases H
                      · rw [if_neg c92] at H
                        cases H
                    · replace c91 := Bool.eq_false_iff.mpr c91
                      subst c91
                      have H1 : none = some r := by rw [if_neg (show ¬ (false = true) by decide)] at H; exact H
                      cases H1
                  · rw [if_neg c90] at H
                    cases H
                · rw [if_neg c89] at H
                  have c89b0 : (t197 == 0) = false := beq_eq_false_iff_ne.mpr c89
                  have c89b1 : (t197 != 0) = true := bne_iff_ne.mpr c89
                  by_cases c95 : t186 = true
                  · subst c95
                    have H1 : (if (wrap64 ((wrap64 (t213 * 96)) - (wrap64 ((wrap64 (2 * t197)) * (wrap64 ((wrap64 (100000 + t187)) + t209)))))) ≤ (wrap64 (2 * t197)) then (if (wrap64 ((wrap64 (t213 * 96)) - (wrap64 ((wrap64 (2 * t197)) * (wrap64 ((wrap64 (100000 + t187)) + t209)))))) ≥ (-96) then (if (wrap64 (t197 + t198)) < (wrap64 (1 + t189)) then (some true) else (some (t211 == (wrap64 (100000 + t188))))) else none) else none) = some r := by rw [if_pos rfl] at H; exact H
                    clear H
                    have H := H1
                    clear H1
                    by_cases c96 : (wrap64 ((wrap64 (t213 * 96)) - (wrap64 ((wrap64 (2 * t197)) * (wrap64 ((wrap64 (100000 + t187)) + t209)))))) ≤ (wrap64 (2 * t197))
                    · rw [if_pos c96] at H
                      have c96b0 : decide ((wrap64 ((wrap64 (t213 * 96)) - (wrap64 ((wrap64 (2 * t197)) * (wrap64 ((wrap64 (100000 + t187)) + t209)))))) ≤ (wrap64 (2 * t197))) = true := decide_eq_true c96
                      clear c96
                      by_cases c97 : (wrap64 ((wrap64 (t213 * 96)) - (wrap64 ((wrap64 (2 * t197)) * (wrap64 ((wrap64 (100000 + t187)) + t209)))))) ≥ (-96)
                      · rw [if_pos c97] at H
                        have c97b0 : decide ((-96) ≤ (wrap64 ((wrap64 (t213 * 96)) - (wrap64 ((wrap64 (2 * t197)) * (wrap64 ((wrap64 (100000 + t187)) + t209))))))) = true := decide_eq_true c97
                        clear c97
                        by_cases c98 : (wrap64 (t197 + t198)) < (wrap64 (1 + t189))
                        · rw [if_pos c98] at H
                          have c98b0 : decide ((wrap64 (t197 + t198)) < (wrap64 (1 + t189))) = true := decide_eq_true c98
                          clear c98
                          obtain rfl := Option.some.inj H
                          go_wp2
                          go_ret
                          exact ⟨by first | rfl | (simp [errW_none, errW_some] <;> rfl) | (simp only [← hji49, ← hji51]; first | rfl | (simp [errW_none, errW_some] <;> rfl)) | (simp [*, errW_none, errW_some] <;> rfl), by repeat (first | (with_reducible first | exact HB.out | apply below_alloc | apply pw_below_drewN | apply below_drew1 | refine below_set ?_ GE193.out | refine below_set ?_ GE202.out | refine below_set ?_ GE206.out) | exact HB.out)⟩
                        · rw [if_neg c98] at H
                          have c98b0 : decide ((wrap64 (t197 + t198)) < (wrap64 (1 + t189))) = false := decide_eq_false c98
                          clear c98
                          obtain rfl := Option.some.inj H
                          go_wp2
                          go_ret
                          exact ⟨by first | rfl | (simp [errW_none, errW_some] <;> rfl) | (simp only [← hji49, ← hji51]; first | rfl | (simp [errW_none, errW_some] <;> rfl)) | (simp [*, errW_none, errW_some] <;> rfl), by repeat (first | (with_reducible first | exact HB.out | apply below_alloc | apply pw_below_drewN | apply below_drew1 | refine below_set ?_ GE193.out | refine below_set ?_ GE202.out | refine below_set ?_ GE206.out) | exact HB.out)⟩
                      · rw [if_neg c97] at H
                        cases H
                    · rw [if_neg c96] at H
                      cases H
                  · replace c95 := Bool.eq_false_iff.mpr c95
                    subst c95
                    have H1 : none = some r := by rw [if_neg (show ¬ (false = true) by decide)] at H; exact H
                    cases H1
end Go.Proofs.Ytchjlkokfgmjaaa.Q
