-- Written by a program of this session (myprint.py), function by function.
import Derived.Test.YtchjlkokfgmjaaaQ0
import Derived.Test.YtchjlkokfgmjaaaQ6
import Derived.Test.YtchjlkokfgmjaaaQ7
import Derived.Test.YtchjlkokfgmjaaaQ10
namespace Go.Proofs.Ytchjlkokfgmjaaa.Q
open Go.RowKit Go.Proofs.YtchjlkokfgmjaaaW.PrintWords Go.Proofs.YtchjlkokfgmjaaaW.PrintLast Go.Proofs.YtchjlkokfgmjaaaW.PrintMore
attribute [local go_sem] max2_int min2_int max_two min_two max_three min_three max_four min_four   -- for this text's walks alone
set_option linter.unusedVariables false
set_option linter.unusedSimpArgs false

/-! ### partitalaw11_TempoPlain: function 4 -/
def partitalaw11_TempoPlain.j0 : Nat → Bool → Int → Int → Int → Int → Int → Int → Bool → Option (Bool)
  | 0, _, _, _, _, _, _, _, _ => none
  | k + 1, x9, x10, x13, x14, x16, x18, x20, x87 => if x87 = true then none else (if x14 < x13 then (if x9 = true then (if x16 = 500000 then (some (x18 == x20)) else none) else none) else (if x9 = true then (if x16 = x10 then (some (x18 == (wrap64 ((wrap64 (Int.tdiv (wrap64 (2000000 * x13)) 96)) + (wrap64 (Int.tdiv (wrap64 ((wrap64 (4 * x10)) * (wrap64 (x14 - x13)))) 96)))))) else none) else none))
def partitalaw11_TempoPlain.f (k : Nat) (a0 : Int) (a1 : Bool) (a2 : Int) (a3 : Int) : Option (Bool) := (partitalaw11_awake.f k).bind fun t165 => ((partitalaw11_pick.f a0 3900001).bind fun t166 => ((partitalaw11_place.f k a2).bind fun bt167 => ((partitalaw11_place.f k a3).bind fun bt170 => ((partitalaw11_pick.f a2 2880).bind fun t173 => ((partitalaw11_pick.f a3 2880).bind fun t174 => ((some (([(⟨(⟨bt167.1, bt167.2⟩ : S27), wrap64 (100000 + t166), a1⟩ : S36)] : List (S36)) : List (S36))).bind fun y175 => ((tempo_Rate.f k y175 bt170.1 bt170.2).bind fun bt178 => ((tempo_Micros.f k y175 bt170.1 bt170.2).bind fun bt180 => ((tempo_Micros.f k ([] : List (S36)) bt170.1 bt170.2).bind fun bt182 => ((tempo_Rate.f k ([] : List (S36)) bt170.1 bt170.2).bind fun bt184 => (if bt178.2 = 0 then (if bt180.2 = 0 then (if bt182.2 = 0 then (if bt184.2 = 0 then (if bt182.1 = (wrap64 (Int.tdiv (wrap64 (2000000 * t174)) 96)) then (partitalaw11_TempoPlain.j0 k t165 (wrap64 (100000 + t166)) t173 t174 bt178.1 bt180.1 bt182.1 (bt184.1 != 500000)) else (partitalaw11_TempoPlain.j0 k t165 (wrap64 (100000 + t166)) t173 t174 bt178.1 bt180.1 bt182.1 true)) else (partitalaw11_TempoPlain.j0 k t165 (wrap64 (100000 + t166)) t173 t174 bt178.1 bt180.1 bt182.1 true)) else (partitalaw11_TempoPlain.j0 k t165 (wrap64 (100000 + t166)) t173 t174 bt178.1 bt180.1 bt182.1 true)) else (partitalaw11_TempoPlain.j0 k t165 (wrap64 (100000 + t166)) t173 t174 bt178.1 bt180.1 bt182.1 true)) else (partitalaw11_TempoPlain.j0 k t165 (wrap64 (100000 + t166)) t173 t174 bt178.1 bt180.1 bt182.1 true))))))))))))
theorem partitalaw11_TempoPlain.mono_l : ∀ k, (∀ y0 y1 y2 y3 y4 y5 y6 y7, LeO (partitalaw11_TempoPlain.j0 k y0 y1 y2 y3 y4 y5 y6 y7) (partitalaw11_TempoPlain.j0 (k + 1) y0 y1 y2 y3 y4 y5 y6 y7))
  | 0 => fun _ _ _ _ _ _ _ _ r h => by simp [partitalaw11_TempoPlain.j0] at h
  | k + 1 => by
    have ih0 := partitalaw11_TempoPlain.mono_l k
    · intro y0 y1 y2 y3 y4 y5 y6 y7
      unfold partitalaw11_TempoPlain.j0
      repeat' first
      | (with_reducible exact ih0 _ _ _ _ _ _ _ _)
      | (with_reducible exact partitalaw11_awake.mono _)
      | (with_reducible exact partitalaw11_place.mono _ _)
      | (with_reducible exact tempo_Micros.mono _ _ _ _)
      | (with_reducible exact tempo_Rate.mono _ _ _ _)
      | (with_reducible exact LeO.refl _)
      | (with_reducible exact LeO.none _)
      | (with_reducible refine LeO.ite ?_ ?_)
      | (with_reducible refine LeO.bind ?_ (fun _ => ?_))
      | exact ih0 _ _ _ _ _ _ _ _
      | exact partitalaw11_awake.mono _
      | exact partitalaw11_place.mono _ _
      | exact tempo_Micros.mono _ _ _ _
      | exact tempo_Rate.mono _ _ _ _
      | exact LeO.none _
      | refine LeO.ite ?_ ?_
      | refine LeO.bind ?_ (fun _ => ?_)
theorem partitalaw11_TempoPlain.mono : ∀ a0 a1 a2 a3 k, LeO (partitalaw11_TempoPlain.f k a0 a1 a2 a3) (partitalaw11_TempoPlain.f (k + 1) a0 a1 a2 a3) := by
  intro a0 a1 a2 a3 k
  have ih0 := partitalaw11_TempoPlain.mono_l k
  unfold partitalaw11_TempoPlain.f
  repeat' first
      | (with_reducible exact ih0 _ _ _ _ _ _ _ _)
      | (with_reducible exact partitalaw11_awake.mono _)
      | (with_reducible exact partitalaw11_place.mono _ _)
      | (with_reducible exact tempo_Micros.mono _ _ _ _)
      | (with_reducible exact tempo_Rate.mono _ _ _ _)
      | (with_reducible exact LeO.refl _)
      | (with_reducible exact LeO.none _)
      | (with_reducible refine LeO.ite ?_ ?_)
      | (with_reducible refine LeO.bind ?_ (fun _ => ?_))
      | exact ih0 _ _ _ _ _ _ _ _
      | exact partitalaw11_awake.mono _
      | exact partitalaw11_place.mono _ _
      | exact tempo_Micros.mono _ _ _ _
      | exact tempo_Rate.mono _ _ _ _
      | exact LeO.none _
      | refine LeO.ite ?_ ?_
      | refine LeO.bind ?_ (fun _ => ?_)
set_option maxHeartbeats 8000000 in
set_option maxRecDepth 100000 in
theorem partitalaw11_TempoPlain.calls (k : Nat) (a0 : Int) (a1 : Bool) (a2 : Int) (a3 : Int) (r : Bool) (w : World) (h : partitalaw11_TempoPlain.f k a0 a1 a2 a3 = some r) :
    Calls Try.prog 4 #[.int .i64 a0, .bool a1, .int .i64 a2, .int .i64 a3] w fun e w' => e = .returned (.bool r) ∧ Below w.heap.size w w' := by
  have hu27 := Try.underlying27
  have hu36 := Try.underlying36
  have HB := Aside0.mk (Below.refl w.heap.size w)
  have H : ((partitalaw11_awake.f k).bind fun t165 => ((partitalaw11_pick.f a0 3900001).bind fun t166 => ((partitalaw11_place.f k a2).bind fun bt167 => ((partitalaw11_place.f k a3).bind fun bt170 => ((partitalaw11_pick.f a2 2880).bind fun t173 => ((partitalaw11_pick.f a3 2880).bind fun t174 => ((some (([(⟨(⟨bt167.1, bt167.2⟩ : S27), wrap64 (100000 + t166), a1⟩ : S36)] : List (S36)) : List (S36))).bind fun y175 => ((tempo_Rate.f k y175 bt170.1 bt170.2).bind fun bt178 => ((tempo_Micros.f k y175 bt170.1 bt170.2).bind fun bt180 => ((tempo_Micros.f k ([] : List (S36)) bt170.1 bt170.2).bind fun bt182 => ((tempo_Rate.f k ([] : List (S36)) bt170.1 bt170.2).bind fun bt184 => (if bt178.2 = 0 then (if bt180.2 = 0 then (if bt182.2 = 0 then (if bt184.2 = 0 then (if bt182.1 = (wrap64 (Int.tdiv (wrap64 (2000000 * t174)) 96)) then (partitalaw11_TempoPlain.j0 k t165 (wrap64 (100000 + t166)) t173 t174 bt178.1 bt180.1 bt182.1 (bt184.1 != 500000)) else (partitalaw11_TempoPlain.j0 k t165 (wrap64 (100000 + t166)) t173 t174 bt178.1 bt180.1 bt182.1 true)) else (partitalaw11_TempoPlain.j0 k t165 (wrap64 (100000 + t166)) t173 t174 bt178.1 bt180.1 bt182.1 true)) else (partitalaw11_TempoPlain.j0 k t165 (wrap64 (100000 + t166)) t173 t174 bt178.1 bt180.1 bt182.1 true)) else (partitalaw11_TempoPlain.j0 k t165 (wrap64 (100000 + t166)) t173 t174 bt178.1 bt180.1 bt182.1 true)) else (partitalaw11_TempoPlain.j0 k t165 (wrap64 (100000 + t166)) t173 t174 bt178.1 bt180.1 bt182.1 true))))))))))))) = some r := h
  clear h
  replace H := Option.bind_eq_some_iff.mp H
  obtain ⟨t165, A50, H⟩ := H
  replace H : ((partitalaw11_pick.f a0 3900001).bind fun t166 => ((partitalaw11_place.f k a2).bind fun bt167 => ((partitalaw11_place.f k a3).bind fun bt170 => ((partitalaw11_pick.f a2 2880).bind fun t173 => ((partitalaw11_pick.f a3 2880).bind fun t174 => ((some (([(⟨(⟨bt167.1, bt167.2⟩ : S27), wrap64 (100000 + t166), a1⟩ : S36)] : List (S36)) : List (S36))).bind fun y175 => ((tempo_Rate.f k y175 bt170.1 bt170.2).bind fun bt178 => ((tempo_Micros.f k y175 bt170.1 bt170.2).bind fun bt180 => ((tempo_Micros.f k ([] : List (S36)) bt170.1 bt170.2).bind fun bt182 => ((tempo_Rate.f k ([] : List (S36)) bt170.1 bt170.2).bind fun bt184 => (if bt178.2 = 0 then (if bt180.2 = 0 then (if bt182.2 = 0 then (if bt184.2 = 0 then (if bt182.1 = (wrap64 (Int.tdiv (wrap64 (2000000 * t174)) 96)) then (partitalaw11_TempoPlain.j0 k t165 (wrap64 (100000 + t166)) t173 t174 bt178.1 bt180.1 bt182.1 (bt184.1 != 500000)) else (partitalaw11_TempoPlain.j0 k t165 (wrap64 (100000 + t166)) t173 t174 bt178.1 bt180.1 bt182.1 true)) else (partitalaw11_TempoPlain.j0 k t165 (wrap64 (100000 + t166)) t173 t174 bt178.1 bt180.1 bt182.1 true)) else (partitalaw11_TempoPlain.j0 k t165 (wrap64 (100000 + t166)) t173 t174 bt178.1 bt180.1 bt182.1 true)) else (partitalaw11_TempoPlain.j0 k t165 (wrap64 (100000 + t166)) t173 t174 bt178.1 bt180.1 bt182.1 true)) else (partitalaw11_TempoPlain.j0 k t165 (wrap64 (100000 + t166)) t173 t174 bt178.1 bt180.1 bt182.1 true)))))))))))) = some r := H
  have A5 := Aside0.mk A50
  clear A50
  replace H := Option.bind_eq_some_iff.mp H
  obtain ⟨t166, A60, H⟩ := H
  replace H : ((partitalaw11_place.f k a2).bind fun bt167 => ((partitalaw11_place.f k a3).bind fun bt170 => ((partitalaw11_pick.f a2 2880).bind fun t173 => ((partitalaw11_pick.f a3 2880).bind fun t174 => ((some (([(⟨(⟨bt167.1, bt167.2⟩ : S27), wrap64 (100000 + t166), a1⟩ : S36)] : List (S36)) : List (S36))).bind fun y175 => ((tempo_Rate.f k y175 bt170.1 bt170.2).bind fun bt178 => ((tempo_Micros.f k y175 bt170.1 bt170.2).bind fun bt180 => ((tempo_Micros.f k ([] : List (S36)) bt170.1 bt170.2).bind fun bt182 => ((tempo_Rate.f k ([] : List (S36)) bt170.1 bt170.2).bind fun bt184 => (if bt178.2 = 0 then (if bt180.2 = 0 then (if bt182.2 = 0 then (if bt184.2 = 0 then (if bt182.1 = (wrap64 (Int.tdiv (wrap64 (2000000 * t174)) 96)) then (partitalaw11_TempoPlain.j0 k t165 (wrap64 (100000 + t166)) t173 t174 bt178.1 bt180.1 bt182.1 (bt184.1 != 500000)) else (partitalaw11_TempoPlain.j0 k t165 (wrap64 (100000 + t166)) t173 t174 bt178.1 bt180.1 bt182.1 true)) else (partitalaw11_TempoPlain.j0 k t165 (wrap64 (100000 + t166)) t173 t174 bt178.1 bt180.1 bt182.1 true)) else (partitalaw11_TempoPlain.j0 k t165 (wrap64 (100000 + t166)) t173 t174 bt178.1 bt180.1 bt182.1 true)) else (partitalaw11_TempoPlain.j0 k t165 (wrap64 (100000 + t166)) t173 t174 bt178.1 bt180.1 bt182.1 true)) else (partitalaw11_TempoPlain.j0 k t165 (wrap64 (100000 + t166)) t173 t174 bt178.1 bt180.1 bt182.1 true))))))))))) = some r := H
  have A6 := Aside0.mk A60
  clear A60
  replace H := Option.bind_eq_some_iff.mp H
  obtain ⟨⟨t167, t168⟩, A70, H⟩ := H
  replace H : ((partitalaw11_place.f k a3).bind fun bt170 => ((partitalaw11_pick.f a2 2880).bind fun t173 => ((partitalaw11_pick.f a3 2880).bind fun t174 => ((some (([(⟨(⟨t167, t168⟩ : S27), wrap64 (100000 + t166), a1⟩ : S36)] : List (S36)) : List (S36))).bind fun y175 => ((tempo_Rate.f k y175 bt170.1 bt170.2).bind fun bt178 => ((tempo_Micros.f k y175 bt170.1 bt170.2).bind fun bt180 => ((tempo_Micros.f k ([] : List (S36)) bt170.1 bt170.2).bind fun bt182 => ((tempo_Rate.f k ([] : List (S36)) bt170.1 bt170.2).bind fun bt184 => (if bt178.2 = 0 then (if bt180.2 = 0 then (if bt182.2 = 0 then (if bt184.2 = 0 then (if bt182.1 = (wrap64 (Int.tdiv (wrap64 (2000000 * t174)) 96)) then (partitalaw11_TempoPlain.j0 k t165 (wrap64 (100000 + t166)) t173 t174 bt178.1 bt180.1 bt182.1 (bt184.1 != 500000)) else (partitalaw11_TempoPlain.j0 k t165 (wrap64 (100000 + t166)) t173 t174 bt178.1 bt180.1 bt182.1 true)) else (partitalaw11_TempoPlain.j0 k t165 (wrap64 (100000 + t166)) t173 t174 bt178.1 bt180.1 bt182.1 true)) else (partitalaw11_TempoPlain.j0 k t165 (wrap64 (100000 + t166)) t173 t174 bt178.1 bt180.1 bt182.1 true)) else (partitalaw11_TempoPlain.j0 k t165 (wrap64 (100000 + t166)) t173 t174 bt178.1 bt180.1 bt182.1 true)) else (partitalaw11_TempoPlain.j0 k t165 (wrap64 (100000 + t166)) t173 t174 bt178.1 bt180.1 bt182.1 true)))))))))) = some r := H
  have A7 := Aside0.mk A70
  clear A70
  replace H := Option.bind_eq_some_iff.mp H
  obtain ⟨⟨t170, t171⟩, A80, H⟩ := H
  replace H : ((partitalaw11_pick.f a2 2880).bind fun t173 => ((partitalaw11_pick.f a3 2880).bind fun t174 => ((some (([(⟨(⟨t167, t168⟩ : S27), wrap64 (100000 + t166), a1⟩ : S36)] : List (S36)) : List (S36))).bind fun y175 => ((tempo_Rate.f k y175 t170 t171).bind fun bt178 => ((tempo_Micros.f k y175 t170 t171).bind fun bt180 => ((tempo_Micros.f k ([] : List (S36)) t170 t171).bind fun bt182 => ((tempo_Rate.f k ([] : List (S36)) t170 t171).bind fun bt184 => (if bt178.2 = 0 then (if bt180.2 = 0 then (if bt182.2 = 0 then (if bt184.2 = 0 then (if bt182.1 = (wrap64 (Int.tdiv (wrap64 (2000000 * t174)) 96)) then (partitalaw11_TempoPlain.j0 k t165 (wrap64 (100000 + t166)) t173 t174 bt178.1 bt180.1 bt182.1 (bt184.1 != 500000)) else (partitalaw11_TempoPlain.j0 k t165 (wrap64 (100000 + t166)) t173 t174 bt178.1 bt180.1 bt182.1 true)) else (partitalaw11_TempoPlain.j0 k t165 (wrap64 (100000 + t166)) t173 t174 bt178.1 bt180.1 bt182.1 true)) else (partitalaw11_TempoPlain.j0 k t165 (wrap64 (100000 + t166)) t173 t174 bt178.1 bt180.1 bt182.1 true)) else (partitalaw11_TempoPlain.j0 k t165 (wrap64 (100000 + t166)) t173 t174 bt178.1 bt180.1 bt182.1 true)) else (partitalaw11_TempoPlain.j0 k t165 (wrap64 (100000 + t166)) t173 t174 bt178.1 bt180.1 bt182.1 true))))))))) = some r := H
  have A8 := Aside0.mk A80
  clear A80
  replace H := Option.bind_eq_some_iff.mp H
  obtain ⟨t173, A90, H⟩ := H
  replace H : ((partitalaw11_pick.f a3 2880).bind fun t174 => ((some (([(⟨(⟨t167, t168⟩ : S27), wrap64 (100000 + t166), a1⟩ : S36)] : List (S36)) : List (S36))).bind fun y175 => ((tempo_Rate.f k y175 t170 t171).bind fun bt178 => ((tempo_Micros.f k y175 t170 t171).bind fun bt180 => ((tempo_Micros.f k ([] : List (S36)) t170 t171).bind fun bt182 => ((tempo_Rate.f k ([] : List (S36)) t170 t171).bind fun bt184 => (if bt178.2 = 0 then (if bt180.2 = 0 then (if bt182.2 = 0 then (if bt184.2 = 0 then (if bt182.1 = (wrap64 (Int.tdiv (wrap64 (2000000 * t174)) 96)) then (partitalaw11_TempoPlain.j0 k t165 (wrap64 (100000 + t166)) t173 t174 bt178.1 bt180.1 bt182.1 (bt184.1 != 500000)) else (partitalaw11_TempoPlain.j0 k t165 (wrap64 (100000 + t166)) t173 t174 bt178.1 bt180.1 bt182.1 true)) else (partitalaw11_TempoPlain.j0 k t165 (wrap64 (100000 + t166)) t173 t174 bt178.1 bt180.1 bt182.1 true)) else (partitalaw11_TempoPlain.j0 k t165 (wrap64 (100000 + t166)) t173 t174 bt178.1 bt180.1 bt182.1 true)) else (partitalaw11_TempoPlain.j0 k t165 (wrap64 (100000 + t166)) t173 t174 bt178.1 bt180.1 bt182.1 true)) else (partitalaw11_TempoPlain.j0 k t165 (wrap64 (100000 + t166)) t173 t174 bt178.1 bt180.1 bt182.1 true)))))))) = some r := H
  have A9 := Aside0.mk A90
  clear A90
  replace H := Option.bind_eq_some_iff.mp H
  obtain ⟨t174, A100, H⟩ := H
  replace H : ((some (([(⟨(⟨t167, t168⟩ : S27), wrap64 (100000 + t166), a1⟩ : S36)] : List (S36)) : List (S36))).bind fun y175 => ((tempo_Rate.f k y175 t170 t171).bind fun bt178 => ((tempo_Micros.f k y175 t170 t171).bind fun bt180 => ((tempo_Micros.f k ([] : List (S36)) t170 t171).bind fun bt182 => ((tempo_Rate.f k ([] : List (S36)) t170 t171).bind fun bt184 => (if bt178.2 = 0 then (if bt180.2 = 0 then (if bt182.2 = 0 then (if bt184.2 = 0 then (if bt182.1 = (wrap64 (Int.tdiv (wrap64 (2000000 * t174)) 96)) then (partitalaw11_TempoPlain.j0 k t165 (wrap64 (100000 + t166)) t173 t174 bt178.1 bt180.1 bt182.1 (bt184.1 != 500000)) else (partitalaw11_TempoPlain.j0 k t165 (wrap64 (100000 + t166)) t173 t174 bt178.1 bt180.1 bt182.1 true)) else (partitalaw11_TempoPlain.j0 k t165 (wrap64 (100000 + t166)) t173 t174 bt178.1 bt180.1 bt182.1 true)) else (partitalaw11_TempoPlain.j0 k t165 (wrap64 (100000 + t166)) t173 t174 bt178.1 bt180.1 bt182.1 true)) else (partitalaw11_TempoPlain.j0 k t165 (wrap64 (100000 + t166)) t173 t174 bt178.1 bt180.1 bt182.1 true)) else (partitalaw11_TempoPlain.j0 k t165 (wrap64 (100000 + t166)) t173 t174 bt178.1 bt180.1 bt182.1 true))))))) = some r := H
  have A10 := Aside0.mk A100
  clear A100
  obtain ⟨y175, hy175⟩ : ∃ y_ : List (S36), y_ = (([(⟨(⟨t167, t168⟩ : S27), wrap64 (100000 + t166), a1⟩ : S36)] : List (S36))) := ⟨_, rfl⟩
  replace H : ((tempo_Rate.f k y175 t170 t171).bind fun bt178 => ((tempo_Micros.f k y175 t170 t171).bind fun bt180 => ((tempo_Micros.f k ([] : List (S36)) t170 t171).bind fun bt182 => ((tempo_Rate.f k ([] : List (S36)) t170 t171).bind fun bt184 => (if bt178.2 = 0 then (if bt180.2 = 0 then (if bt182.2 = 0 then (if bt184.2 = 0 then (if bt182.1 = (wrap64 (Int.tdiv (wrap64 (2000000 * t174)) 96)) then (partitalaw11_TempoPlain.j0 k t165 (wrap64 (100000 + t166)) t173 t174 bt178.1 bt180.1 bt182.1 (bt184.1 != 500000)) else (partitalaw11_TempoPlain.j0 k t165 (wrap64 (100000 + t166)) t173 t174 bt178.1 bt180.1 bt182.1 true)) else (partitalaw11_TempoPlain.j0 k t165 (wrap64 (100000 + t166)) t173 t174 bt178.1 bt180.1 bt182.1 true)) else (partitalaw11_TempoPlain.j0 k t165 (wrap64 (100000 + t166)) t173 t174 bt178.1 bt180.1 bt182.1 true)) else (partitalaw11_TempoPlain.j0 k t165 (wrap64 (100000 + t166)) t173 t174 bt178.1 bt180.1 bt182.1 true)) else (partitalaw11_TempoPlain.j0 k t165 (wrap64 (100000 + t166)) t173 t174 bt178.1 bt180.1 bt182.1 true)))))) = some r := by first | (rw [hy175]; with_reducible exact H) | (have H2_ := (Option.bind_some _ _).symm.trans H; rw [hy175]; with_reducible exact H2_) | (have H2_ := (Option.bind_some _ _).symm.trans H; with_reducible exact H2_) | with_reducible exact H | (rw [hy175]; exact H) | exact H
  have Ny175 := Aside0.mk hy175
  clear hy175
  replace H := Option.bind_eq_some_iff.mp H
  obtain ⟨⟨t178, t179⟩, A110, H⟩ := H
  replace H : ((tempo_Micros.f k y175 t170 t171).bind fun bt180 => ((tempo_Micros.f k ([] : List (S36)) t170 t171).bind fun bt182 => ((tempo_Rate.f k ([] : List (S36)) t170 t171).bind fun bt184 => (if t179 = 0 then (if bt180.2 = 0 then (if bt182.2 = 0 then (if bt184.2 = 0 then (if bt182.1 = (wrap64 (Int.tdiv (wrap64 (2000000 * t174)) 96)) then (partitalaw11_TempoPlain.j0 k t165 (wrap64 (100000 + t166)) t173 t174 t178 bt180.1 bt182.1 (bt184.1 != 500000)) else (partitalaw11_TempoPlain.j0 k t165 (wrap64 (100000 + t166)) t173 t174 t178 bt180.1 bt182.1 true)) else (partitalaw11_TempoPlain.j0 k t165 (wrap64 (100000 + t166)) t173 t174 t178 bt180.1 bt182.1 true)) else (partitalaw11_TempoPlain.j0 k t165 (wrap64 (100000 + t166)) t173 t174 t178 bt180.1 bt182.1 true)) else (partitalaw11_TempoPlain.j0 k t165 (wrap64 (100000 + t166)) t173 t174 t178 bt180.1 bt182.1 true)) else (partitalaw11_TempoPlain.j0 k t165 (wrap64 (100000 + t166)) t173 t174 t178 bt180.1 bt182.1 true))))) = some r := H
  have A11 := Aside0.mk A110
  clear A110
  replace H := Option.bind_eq_some_iff.mp H
  obtain ⟨⟨t180, t181⟩, A120, H⟩ := H
  replace H : ((tempo_Micros.f k ([] : List (S36)) t170 t171).bind fun bt182 => ((tempo_Rate.f k ([] : List (S36)) t170 t171).bind fun bt184 => (if t179 = 0 then (if t181 = 0 then (if bt182.2 = 0 then (if bt184.2 = 0 then (if bt182.1 = (wrap64 (Int.tdiv (wrap64 (2000000 * t174)) 96)) then (partitalaw11_TempoPlain.j0 k t165 (wrap64 (100000 + t166)) t173 t174 t178 t180 bt182.1 (bt184.1 != 500000)) else (partitalaw11_TempoPlain.j0 k t165 (wrap64 (100000 + t166)) t173 t174 t178 t180 bt182.1 true)) else (partitalaw11_TempoPlain.j0 k t165 (wrap64 (100000 + t166)) t173 t174 t178 t180 bt182.1 true)) else (partitalaw11_TempoPlain.j0 k t165 (wrap64 (100000 + t166)) t173 t174 t178 t180 bt182.1 true)) else (partitalaw11_TempoPlain.j0 k t165 (wrap64 (100000 + t166)) t173 t174 t178 t180 bt182.1 true)) else (partitalaw11_TempoPlain.j0 k t165 (wrap64 (100000 + t166)) t173 t174 t178 t180 bt182.1 true)))) = some r := H
  have A12 := Aside0.mk A120
  clear A120
  replace H := Option.bind_eq_some_iff.mp H
  obtain ⟨⟨t182, t183⟩, A130, H⟩ := H
  replace H : ((tempo_Rate.f k ([] : List (S36)) t170 t171).bind fun bt184 => (if t179 = 0 then (if t181 = 0 then (if t183 = 0 then (if bt184.2 = 0 then (if t182 = (wrap64 (Int.tdiv (wrap64 (2000000 * t174)) 96)) then (partitalaw11_TempoPlain.j0 k t165 (wrap64 (100000 + t166)) t173 t174 t178 t180 t182 (bt184.1 != 500000)) else (partitalaw11_TempoPlain.j0 k t165 (wrap64 (100000 + t166)) t173 t174 t178 t180 t182 true)) else (partitalaw11_TempoPlain.j0 k t165 (wrap64 (100000 + t166)) t173 t174 t178 t180 t182 true)) else (partitalaw11_TempoPlain.j0 k t165 (wrap64 (100000 + t166)) t173 t174 t178 t180 t182 true)) else (partitalaw11_TempoPlain.j0 k t165 (wrap64 (100000 + t166)) t173 t174 t178 t180 t182 true)) else (partitalaw11_TempoPlain.j0 k t165 (wrap64 (100000 + t166)) t173 t174 t178 t180 t182 true))) = some r := H
  have A13 := Aside0.mk A130
  clear A130
  replace H := Option.bind_eq_some_iff.mp H
  obtain ⟨⟨t184, t185⟩, A140, H⟩ := H
  replace H : (if t179 = 0 then (if t181 = 0 then (if t183 = 0 then (if t185 = 0 then (if t182 = (wrap64 (Int.tdiv (wrap64 (2000000 * t174)) 96)) then (partitalaw11_TempoPlain.j0 k t165 (wrap64 (100000 + t166)) t173 t174 t178 t180 t182 (t184 != 500000)) else (partitalaw11_TempoPlain.j0 k t165 (wrap64 (100000 + t166)) t173 t174 t178 t180 t182 true)) else (partitalaw11_TempoPlain.j0 k t165 (wrap64 (100000 + t166)) t173 t174 t178 t180 t182 true)) else (partitalaw11_TempoPlain.j0 k t165 (wrap64 (100000 + t166)) t173 t174 t178 t180 t182 true)) else (partitalaw11_TempoPlain.j0 k t165 (wrap64 (100000 + t166)) t173 t174 t178 t180 t182 true)) else (partitalaw11_TempoPlain.j0 k t165 (wrap64 (100000 + t166)) t173 t174 t178 t180 t182 true)) = some r := H
  have A14 := Aside0.mk A140
  clear A140
  have HC15 := Aside0.mk H
  clear H
  go_enter Try.func4, Try.ntmps4
  go_upto_region 12 with (first | ((with_reducible refine gate_callee (f := 11) rfl ?_); refine goesL_ (some 24) rfl rfl Try.func11 (by kernel_rfl) rfl #[] rfl (by (try simp only [List.map_toArray, List.map_cons, List.map_nil]); first | done | rfl | (simp only [List.length_drop, List.length_take]; rfl)) ?_; (with_reducible refine (partitalaw11_awake.calls k  t165 _ A5.out).mono ?_); rintro e w16 ⟨rfl, hb⟩; refine ⟨_, rfl, ?_⟩; have n0_ := Aside0.mk (below_step (by repeat (first | (with_reducible first | exact HB.out | apply below_alloc | apply pw_below_drewN | apply below_drew1) | exact HB.out)) hb); clear HB; have HB := n0_; clear n0_; (try clear hb); (try clear hb2); (try clear hk); (try clear hi)) | ((with_reducible refine gate_callee (f := 13) rfl ?_); refine goesL_ (some 26) rfl rfl Try.func13 (by kernel_rfl) rfl #[.int .i64 a0, .int .i64 3900001] rfl (by (try simp only [List.map_toArray, List.map_cons, List.map_nil]); first | done | rfl | (simp only [List.length_drop, List.length_take]; rfl)) ?_; (with_reducible refine (partitalaw11_pick.calls a0 3900001 t166 _ A6.out).mono ?_); rintro e w' ⟨rfl, ⟨nd, rfl⟩⟩; refine ⟨_, rfl, ?_⟩; (try (rw [drewN_self w16]; generalize hq_ : World.drewN w16 _ = w16; have n0_ : Aside0 (Below w.heap.size w w16) := ⟨by rw [← hq_]; exact (by repeat (first | (with_reducible first | exact HB.out | apply below_alloc | apply pw_below_drewN | apply below_drew1) | exact HB.out))⟩; clear HB hq_; have HB := n0_; clear n0_))) | ((with_reducible refine gate_callee (f := 16) rfl ?_); refine goesL_ (some 29) rfl rfl Try.func16 (by kernel_rfl) rfl #[.int .i64 a2] rfl (by (try simp only [List.map_toArray, List.map_cons, List.map_nil]); first | done | rfl | (simp only [List.length_drop, List.length_take]; rfl)) ?_; (with_reducible refine (partitalaw11_place.calls k a2 t167 t168 _ A7.out).mono ?_); rintro e w17 ⟨rfl, hb⟩; refine ⟨_, rfl, ?_⟩; have n0_ := Aside0.mk (below_step (by repeat (first | (with_reducible first | exact HB.out | apply below_alloc | apply pw_below_drewN | apply below_drew1) | exact HB.out)) hb); clear HB; have HB := n0_; clear n0_; (try clear hb); (try clear hb2); (try clear hk); (try clear hi)) | ((with_reducible refine gate_dst (N := 11) rfl ?_); refine box_event ?hg (N := 11) ?hd (cs := #[.int .i64 0, .int .i64 0]) (t := 27) ?hr ?_; (case hd => rfl); (case hg => rfl); (case hr => first | (go_simp; done) | (go_simp; rfl)); intro gb169 hg w18 hbox hb; have n0_ := Aside0.mk (below_step (by repeat (first | (with_reducible first | exact HB.out | apply below_alloc | apply pw_below_drewN | apply below_drew1) | exact HB.out)) hb); have n1_ := Aside0.mk (hbox); have n2_ := Aside0.mk ((by rw [hg]; exact (below_size (by repeat (first | (with_reducible first | exact HB.out | apply below_alloc | apply pw_below_drewN | apply below_drew1) | exact HB.out))) : w.heap.size ≤ gb169)); have n3_ := Aside0.mk ((by rw [hg]; exact (below_size (by repeat (first | (with_reducible first | exact HB.out | apply below_alloc | apply pw_below_drewN | apply below_drew1) | exact HB.out))) : w.heap.size ≤ gb169)); clear HB; have HB := n0_; have BK169 := n1_; have GW169 := n2_; have GE169 := n3_; clear n0_ n1_ n2_ n3_; clear hb hbox hg; have hcz19_0 : w18.cell? ⟨gb169, 0, none⟩ = some (.int .i64 0) := (blk_cell BK169.out 0).trans rfl; have hcz19_1 : w18.cell? ⟨gb169, 1, none⟩ = some (.int .i64 0) := (blk_cell BK169.out 1).trans rfl; have hfz19_0 := blk_frozen BK169.out 0; have hfz19_1 := blk_frozen BK169.out 1) | ((with_reducible refine gate_callee (f := 16) rfl ?_); refine goesL_ (some 31) rfl rfl Try.func16 (by kernel_rfl) rfl #[.int .i64 a3] rfl (by (try simp only [List.map_toArray, List.map_cons, List.map_nil]); first | done | rfl | (simp only [List.length_drop, List.length_take]; rfl)) ?_; (with_reducible refine (partitalaw11_place.calls k a3 t170 t171 _ A8.out).mono ?_); rintro e w20 ⟨rfl, hb⟩; refine ⟨_, rfl, ?_⟩; have n0_ := Aside0.mk (blk_below (g := gb169) (o := .cells #[.int .i64 t167, .int .i64 t168] 27 (0, 0)) (by (with_reducible repeat (first | refine blk_drewN ?_ _ | refine blk_drew ?_ | refine blk_alloc ?_ _)); refine blk_put (cs := #[.int .i64 t167, .int .i64 0]) ?_ 1 _ rfl; (with_reducible repeat (first | refine blk_drewN ?_ _ | refine blk_drew ?_ | refine blk_alloc ?_ _)); refine blk_put (cs := #[.int .i64 0, .int .i64 0]) ?_ 0 _ rfl; (with_reducible repeat (first | refine blk_drewN ?_ _ | refine blk_drew ?_ | refine blk_alloc ?_ _)); exact BK169.out) hb); have n1_ := Aside0.mk (below_step (by repeat (first | (with_reducible first | exact HB.out | apply below_alloc | apply pw_below_drewN | apply below_drew1 | refine below_set ?_ GE169.out) | exact HB.out)) hb); clear BK169; clear HB; have BK169 := n0_; have HB := n1_; clear n0_ n1_; (try clear hb); (try clear hb2); (try clear hk); (try clear hi)) | ((with_reducible refine gate_dst (N := 12) rfl ?_); refine box_event ?hg (N := 12) ?hd (cs := #[.int .i64 0, .int .i64 0]) (t := 27) ?hr ?_; (case hd => rfl); (case hg => rfl); (case hr => first | (go_simp; done) | (go_simp; rfl)); intro gb172 hg w21 hbox hb; have n0_ := Aside0.mk (blk_below (g := gb169) (o := .cells #[.int .i64 t167, .int .i64 t168] 27 (0, 0)) (by (with_reducible repeat (first | refine blk_drewN ?_ _ | refine blk_drew ?_ | refine blk_alloc ?_ _)); exact BK169.out) hb); have n1_ := Aside0.mk (below_step (by repeat (first | (with_reducible first | exact HB.out | apply below_alloc | apply pw_below_drewN | apply below_drew1 | refine below_set ?_ GE169.out) | exact HB.out)) hb); have n2_ := Aside0.mk (hbox); have n3_ := Aside0.mk ((by rw [hg]; exact (below_size (by repeat (first | (with_reducible first | exact HB.out | apply below_alloc | apply pw_below_drewN | apply below_drew1 | refine below_set ?_ GE169.out) | exact HB.out))) : w.heap.size ≤ gb172)); have n4_ := Aside0.mk ((by rw [hg]; exact (below_size (by repeat (first | (with_reducible first | exact HB.out | apply below_alloc | apply pw_below_drewN | apply below_drew1 | refine below_set ?_ GE169.out) | exact HB.out))) : w.heap.size ≤ gb172)); have n5_ := Aside0.mk ((by rw [hg]; exact Nat.ne_of_lt (blk_lt (g := gb169) (o := .cells #[.int .i64 t167, .int .i64 t168] 27 (0, 0)) (by (with_reducible repeat (first | refine blk_drewN ?_ _ | refine blk_drew ?_ | refine blk_alloc ?_ _)); exact BK169.out)) : gb169 ≠ gb172)); have n6_ := Aside0.mk ((by rw [hg]; exact Nat.ne_of_gt (blk_lt (g := gb169) (o := .cells #[.int .i64 t167, .int .i64 t168] 27 (0, 0)) (by (with_reducible repeat (first | refine blk_drewN ?_ _ | refine blk_drew ?_ | refine blk_alloc ?_ _)); exact BK169.out)) : gb172 ≠ gb169)); clear BK169; clear HB; have BK169 := n0_; have HB := n1_; have BK172 := n2_; have GW172 := n3_; have GE172 := n4_; have NB169_172 := n5_; have NB172_169 := n6_; clear n0_ n1_ n2_ n3_ n4_ n5_ n6_; clear hb hbox hg; have hnb22 := NB172_169.out; have hnc22 := NB169_172.out; have hcz23_0 : w21.cell? ⟨gb172, 0, none⟩ = some (.int .i64 0) := (blk_cell BK172.out 0).trans rfl; have hcz23_1 : w21.cell? ⟨gb172, 1, none⟩ = some (.int .i64 0) := (blk_cell BK172.out 1).trans rfl; have hfz23_0 := blk_frozen BK172.out 0; have hfz23_1 := blk_frozen BK172.out 1) | ((with_reducible refine gate_callee (f := 13) rfl ?_); refine goesL_ (some 33) rfl rfl Try.func13 (by kernel_rfl) rfl #[.int .i64 a2, .int .i64 2880] rfl (by (try simp only [List.map_toArray, List.map_cons, List.map_nil]); first | done | rfl | (simp only [List.length_drop, List.length_take]; rfl)) ?_; (with_reducible refine (partitalaw11_pick.calls a2 2880 t173 _ A9.out).mono ?_); rintro e w' ⟨rfl, ⟨nd, rfl⟩⟩; refine ⟨_, rfl, ?_⟩) | ((with_reducible refine gate_callee (f := 13) rfl ?_); refine goesL_ (some 35) rfl rfl Try.func13 (by kernel_rfl) rfl #[.int .i64 a3, .int .i64 2880] rfl (by (try simp only [List.map_toArray, List.map_cons, List.map_nil]); first | done | rfl | (simp only [List.length_drop, List.length_take]; rfl)) ?_; (with_reducible refine (partitalaw11_pick.calls a3 2880 t174 _ A10.out).mono ?_); rintro e w' ⟨rfl, ⟨nd, rfl⟩⟩; refine ⟨_, rfl, ?_⟩; have hcz24_0 : w21.cell? ⟨gb169, 0, none⟩ = some (.int .i64 t167) := (blk_cell BK169.out 0).trans rfl; have hcz24_1 : w21.cell? ⟨gb169, 1, none⟩ = some (.int .i64 t168) := (blk_cell BK169.out 1).trans rfl; have hfz24_0 := blk_frozen BK169.out 0; have hfz24_1 := blk_frozen BK169.out 1) | ((with_reducible refine gate_dst (N := 40) rfl ?_); refine Kd.R_lit k36 _ 36 ?hg (N := 40) ?hd (xs := ([(⟨(⟨t167, t168⟩ : S27), wrap64 (100000 + t166), a1⟩ : S36)] : List (S36))) (inner := [.int .i64 t167, .int .i64 t168, .int .i64 (wrap64 (100000 + t166)), .bool a1]) (ok := fun _ => True) (okp := fun _ => True) ?hr ?hp (fun _ hk => hk) trivial (Below.refl _ _) (Nat.le_refl _) (by simp) ?_; (case hd => rfl); (case hg => rfl); (case hr => first | (go_simp; done) | (go_simp; rfl)); (case hp => exact (Reps.c4 (show Kd.M k36 _ _ _ (⟨(⟨t167, t168⟩ : S27), wrap64 (100000 + t166), a1⟩ : S36) [.int .i64 t167, .int .i64 t168, .int .i64 (wrap64 (100000 + t166)), .bool a1] from (k36_mkM _ _ _ (⟨(⟨t167, t168⟩ : S27), wrap64 (100000 + t166), a1⟩ : S36) )) (Reps.none _ _))); intro v176 w25 ho26 hb hg_ hnew_; clear hg_ hnew_; (first | rw [← Ny175.out] at ho26 | (simp only [Int.reduceToNat] at ho26; rw [← Ny175.out] at ho26)); have n0_ := Aside0.mk (Kd.R_lower ho26 (below_size (by repeat (first | (with_reducible first | exact HB.out | apply below_alloc | apply pw_below_drewN | apply below_drew1 | refine below_set ?_ GE169.out | refine below_set ?_ GE172.out) | exact HB.out)))); have n1_ := Aside0.mk (blk_below (g := gb169) (o := .cells #[.int .i64 t167, .int .i64 t168] 27 (0, 0)) (by (with_reducible repeat (first | refine blk_drewN ?_ _ | refine blk_drew ?_ | refine blk_alloc ?_ _)); refine blk_far ?_ NB169_172.out _; (with_reducible repeat (first | refine blk_drewN ?_ _ | refine blk_drew ?_ | refine blk_alloc ?_ _)); refine blk_far ?_ NB169_172.out _; (with_reducible repeat (first | refine blk_drewN ?_ _ | refine blk_drew ?_ | refine blk_alloc ?_ _)); exact BK169.out) hb); have n2_ := Aside0.mk (blk_below (g := gb172) (o := .cells #[.int .i64 t170, .int .i64 t171] 27 (0, 0)) (by (with_reducible repeat (first | refine blk_drewN ?_ _ | refine blk_drew ?_ | refine blk_alloc ?_ _)); refine blk_put (cs := #[.int .i64 t170, .int .i64 0]) ?_ 1 _ rfl; (with_reducible repeat (first | refine blk_drewN ?_ _ | refine blk_drew ?_ | refine blk_alloc ?_ _)); refine blk_put (cs := #[.int .i64 0, .int .i64 0]) ?_ 0 _ rfl; (with_reducible repeat (first | refine blk_drewN ?_ _ | refine blk_drew ?_ | refine blk_alloc ?_ _)); exact BK172.out) hb); have n3_ := Aside0.mk (below_step (by repeat (first | (with_reducible first | exact HB.out | apply below_alloc | apply pw_below_drewN | apply below_drew1 | refine below_set ?_ GE169.out | refine below_set ?_ GE172.out) | exact HB.out)) hb); clear BK169; clear BK172; clear HB; have HO177 := n0_; have BK169 := n1_; have BK172 := n2_; have HB := n3_; clear n0_ n1_ n2_ n3_; clear hb ho26; have hcz27_0 : w25.cell? ⟨gb172, 0, none⟩ = some (.int .i64 t170) := (blk_cell BK172.out 0).trans rfl; have hcz27_1 : w25.cell? ⟨gb172, 1, none⟩ = some (.int .i64 t171) := (blk_cell BK172.out 1).trans rfl; have hfz27_0 := blk_frozen BK172.out 0; have hfz27_1 := blk_frozen BK172.out 1; obtain ⟨Ao28, co28, eo28⟩ := Kd.R_slice HO177.out; subst eo28) | ((with_reducible refine gate_callee (f := 17) rfl ?_); refine goesL_ (some 44) rfl rfl Try.func17 (by kernel_rfl) rfl #[.slice Ao28 y175.length co28, .agg #[.int .i64 t170, .int .i64 t171]] rfl (by (try simp only [List.map_toArray, List.map_cons, List.map_nil]); first | done | rfl | (simp only [List.length_drop, List.length_take]; rfl)) ?_; (with_reducible refine (tempo_Rate.calls k _ _ y175 t170 t171 t178 t179 _ ?side1 ?side2 A11.out).mono ?_); (case side1 => repeat (first | exact (Kd.R_reads' HO177.out).2.2 | (with_reducible refine Kd.C_alloc ?_ _) | (with_reducible refine Kd.C_drewN ?_ _) | (with_reducible refine Kd.C_drew ?_))); (case side2 => exact (Kd.R_reads' HO177.out).2.1); rintro e w29 ⟨rfl, hb⟩; refine ⟨_, rfl, ?_⟩; have n0_ := Aside0.mk (Kd.R_below (by (with_reducible repeat (first | apply Kd.R_alloc | apply Kd.R_drewN | apply Kd.R_drew)); exact HO177.out) hb); have n1_ := Aside0.mk (blk_below (g := gb169) (o := .cells #[.int .i64 t167, .int .i64 t168] 27 (0, 0)) (by (with_reducible repeat (first | refine blk_drewN ?_ _ | refine blk_drew ?_ | refine blk_alloc ?_ _)); exact BK169.out) hb); have n2_ := Aside0.mk (blk_below (g := gb172) (o := .cells #[.int .i64 t170, .int .i64 t171] 27 (0, 0)) (by (with_reducible repeat (first | refine blk_drewN ?_ _ | refine blk_drew ?_ | refine blk_alloc ?_ _)); exact BK172.out) hb); have n3_ := Aside0.mk (below_step (by repeat (first | (with_reducible first | exact HB.out | apply below_alloc | apply pw_below_drewN | apply below_drew1 | refine below_set ?_ GE169.out | refine below_set ?_ GE172.out) | exact HB.out)) hb); clear HO177; clear BK169; clear BK172; clear HB; have HO177 := n0_; have BK169 := n1_; have BK172 := n2_; have HB := n3_; clear n0_ n1_ n2_ n3_; (try clear hb); (try clear hb2); (try clear hk); (try clear hi); have hcz30_0 : w29.cell? ⟨gb172, 0, none⟩ = some (.int .i64 t170) := (blk_cell BK172.out 0).trans rfl; have hcz30_1 : w29.cell? ⟨gb172, 1, none⟩ = some (.int .i64 t171) := (blk_cell BK172.out 1).trans rfl; have hfz30_0 := blk_frozen BK172.out 0; have hfz30_1 := blk_frozen BK172.out 1) | ((with_reducible refine gate_callee (f := 15) rfl ?_); refine goesL_ (some 50) rfl rfl Try.func15 (by kernel_rfl) rfl #[.slice Ao28 y175.length co28, .agg #[.int .i64 t170, .int .i64 t171]] rfl (by (try simp only [List.map_toArray, List.map_cons, List.map_nil]); first | done | rfl | (simp only [List.length_drop, List.length_take]; rfl)) ?_; (with_reducible refine (tempo_Micros.calls k _ _ y175 t170 t171 t180 t181 _ ?side1 ?side2 A12.out).mono ?_); (case side1 => repeat (first | exact (Kd.R_reads' HO177.out).2.2 | (with_reducible refine Kd.C_alloc ?_ _) | (with_reducible refine Kd.C_drewN ?_ _) | (with_reducible refine Kd.C_drew ?_))); (case side2 => exact (Kd.R_reads' HO177.out).2.1); rintro e w31 ⟨rfl, hb⟩; refine ⟨_, rfl, ?_⟩; have n0_ := Aside0.mk (Kd.R_below (by (with_reducible repeat (first | apply Kd.R_alloc | apply Kd.R_drewN | apply Kd.R_drew)); exact HO177.out) hb); have n1_ := Aside0.mk (blk_below (g := gb169) (o := .cells #[.int .i64 t167, .int .i64 t168] 27 (0, 0)) (by (with_reducible repeat (first | refine blk_drewN ?_ _ | refine blk_drew ?_ | refine blk_alloc ?_ _)); exact BK169.out) hb); have n2_ := Aside0.mk (blk_below (g := gb172) (o := .cells #[.int .i64 t170, .int .i64 t171] 27 (0, 0)) (by (with_reducible repeat (first | refine blk_drewN ?_ _ | refine blk_drew ?_ | refine blk_alloc ?_ _)); exact BK172.out) hb); have n3_ := Aside0.mk (below_step (by repeat (first | (with_reducible first | exact HB.out | apply below_alloc | apply pw_below_drewN | apply below_drew1 | refine below_set ?_ GE169.out | refine below_set ?_ GE172.out) | exact HB.out)) hb); clear HO177; clear BK169; clear BK172; clear HB; have HO177 := n0_; have BK169 := n1_; have BK172 := n2_; have HB := n3_; clear n0_ n1_ n2_ n3_; (try clear hb); (try clear hb2); (try clear hk); (try clear hi); have hcz32_0 : w31.cell? ⟨gb172, 0, none⟩ = some (.int .i64 t170) := (blk_cell BK172.out 0).trans rfl; have hcz32_1 : w31.cell? ⟨gb172, 1, none⟩ = some (.int .i64 t171) := (blk_cell BK172.out 1).trans rfl; have hfz32_0 := blk_frozen BK172.out 0; have hfz32_1 := blk_frozen BK172.out 1) | ((with_reducible refine gate_callee (f := 15) rfl ?_); refine goesL_ (some 55) rfl rfl Try.func15 (by kernel_rfl) rfl #[.slice none 0 0, .agg #[.int .i64 t170, .int .i64 t171]] rfl (by (try simp only [List.map_toArray, List.map_cons, List.map_nil]); first | done | rfl | (simp only [List.length_drop, List.length_take]; rfl)) ?_; (refine (tempo_Micros.calls k _ _ ([] : List (S36)) t170 t171 t182 t183 _ ?side1 ?side2 A13.out).mono ?_); (case side1 => exact Kd.C_nil _ _); (case side2 => exact Nat.le_refl _); rintro e w33 ⟨rfl, hb⟩; refine ⟨_, rfl, ?_⟩; have n0_ := Aside0.mk (Kd.R_below (by (with_reducible repeat (first | apply Kd.R_alloc | apply Kd.R_drewN | apply Kd.R_drew)); exact HO177.out) hb); have n1_ := Aside0.mk (blk_below (g := gb169) (o := .cells #[.int .i64 t167, .int .i64 t168] 27 (0, 0)) (by (with_reducible repeat (first | refine blk_drewN ?_ _ | refine blk_drew ?_ | refine blk_alloc ?_ _)); exact BK169.out) hb); have n2_ := Aside0.mk (blk_below (g := gb172) (o := .cells #[.int .i64 t170, .int .i64 t171] 27 (0, 0)) (by (with_reducible repeat (first | refine blk_drewN ?_ _ | refine blk_drew ?_ | refine blk_alloc ?_ _)); exact BK172.out) hb); have n3_ := Aside0.mk (below_step (by repeat (first | (with_reducible first | exact HB.out | apply below_alloc | apply pw_below_drewN | apply below_drew1 | refine below_set ?_ GE169.out | refine below_set ?_ GE172.out) | exact HB.out)) hb); clear HO177; clear BK169; clear BK172; clear HB; have HO177 := n0_; have BK169 := n1_; have BK172 := n2_; have HB := n3_; clear n0_ n1_ n2_ n3_; (try clear hb); (try clear hb2); (try clear hk); (try clear hi); have hcz34_0 : w33.cell? ⟨gb172, 0, none⟩ = some (.int .i64 t170) := (blk_cell BK172.out 0).trans rfl; have hcz34_1 : w33.cell? ⟨gb172, 1, none⟩ = some (.int .i64 t171) := (blk_cell BK172.out 1).trans rfl; have hfz34_0 := blk_frozen BK172.out 0; have hfz34_1 := blk_frozen BK172.out 1) | ((with_reducible refine gate_callee (f := 17) rfl ?_); refine goesL_ (some 60) rfl rfl Try.func17 (by kernel_rfl) rfl #[.slice none 0 0, .agg #[.int .i64 t170, .int .i64 t171]] rfl (by (try simp only [List.map_toArray, List.map_cons, List.map_nil]); first | done | rfl | (simp only [List.length_drop, List.length_take]; rfl)) ?_; (refine (tempo_Rate.calls k _ _ ([] : List (S36)) t170 t171 t184 t185 _ ?side1 ?side2 A14.out).mono ?_); (case side1 => exact Kd.C_nil _ _); (case side2 => exact Nat.le_refl _); rintro e w35 ⟨rfl, hb⟩; refine ⟨_, rfl, ?_⟩; have n0_ := Aside0.mk (Kd.R_below (by (with_reducible repeat (first | apply Kd.R_alloc | apply Kd.R_drewN | apply Kd.R_drew)); exact HO177.out) hb); have n1_ := Aside0.mk (blk_below (g := gb169) (o := .cells #[.int .i64 t167, .int .i64 t168] 27 (0, 0)) (by (with_reducible repeat (first | refine blk_drewN ?_ _ | refine blk_drew ?_ | refine blk_alloc ?_ _)); exact BK169.out) hb); have n2_ := Aside0.mk (blk_below (g := gb172) (o := .cells #[.int .i64 t170, .int .i64 t171] 27 (0, 0)) (by (with_reducible repeat (first | refine blk_drewN ?_ _ | refine blk_drew ?_ | refine blk_alloc ?_ _)); exact BK172.out) hb); have n3_ := Aside0.mk (below_step (by repeat (first | (with_reducible first | exact HB.out | apply below_alloc | apply pw_below_drewN | apply below_drew1 | refine below_set ?_ GE169.out | refine below_set ?_ GE172.out) | exact HB.out)) hb); clear HO177; clear BK169; clear BK172; clear HB; have HO177 := n0_; have BK169 := n1_; have BK172 := n2_; have HB := n3_; clear n0_ n1_ n2_ n3_; (try clear hb); (try clear hb2); (try clear hk); (try clear hi)))
  (try simp only [Act.put, qa_, qz_, qs_])
  go_cut [87] (fun v87 wc => ∃ (kq : Nat) (x87_14 : Bool), v87 = .bool x87_14 ∧ Aside0 (partitalaw11_TempoPlain.j0 kq t165 (wrap64 (100000 + t166)) t173 t174 t178 t180 t182 x87_14 = some r) ∧ Aside0 (kq ≤ k) ∧ Aside0 (wc.heap[gb169]? = some (.cells #[.int .i64 t167, .int .i64 t168] 27 (0, 0))) ∧ Aside0 (wc.heap[gb172]? = some (.cells #[.int .i64 t170, .int .i64 t171] 27 (0, 0))) ∧ Aside0 (Below w.heap.size w wc))
  case first =>
    have H := HC15.out
    clear HC15
    by_cases c36 : t179 = 0
    · rw [if_pos c36] at H
      have c36b0 : (t179 == 0) = true := beq_iff_eq.mpr c36
      have c36b1 : (t179 != 0) = false := bne_eq_false_iff_eq.mpr c36
      clear c36
      (first | rw [c36b0] | (simp only [i64_w, i32_w]; rw [c36b0]) | skip)
      by_cases c37 : t181 = 0
      · rw [if_pos c37] at H
        have c37b0 : (t181 == 0) = true := beq_iff_eq.mpr c37
        have c37b1 : (t181 != 0) = false := bne_eq_false_iff_eq.mpr c37
        clear c37
        by_cases c38 : t183 = 0
        · rw [if_pos c38] at H
          have c38b0 : (t183 == 0) = true := beq_iff_eq.mpr c38
          have c38b1 : (t183 != 0) = false := bne_eq_false_iff_eq.mpr c38
          clear c38
          by_cases c39 : t185 = 0
          · rw [if_pos c39] at H
            have c39b0 : (t185 == 0) = true := beq_iff_eq.mpr c39
            have c39b1 : (t185 != 0) = false := bne_eq_false_iff_eq.mpr c39
            clear c39
            by_cases c40 : t182 = (wrap64 (Int.tdiv (wrap64 (2000000 * t174)) 96))
            · rw [if_pos c40] at H
              have c40b0 : (t182 == (wrap64 (Int.tdiv (wrap64 (2000000 * t174)) 96))) = true := beq_iff_eq.mpr c40
              have c40b1 : (t182 != (wrap64 (Int.tdiv (wrap64 (2000000 * t174)) 96))) = false := bne_eq_false_iff_eq.mpr c40
              clear c40
              have H' := Aside0.mk H
              clear H
              go_wp2
              go_meet
              case rel => exact ⟨_, ((t184 != 500000)), (by first | rfl | (simp; done) | (simp [*]; done)), H', ⟨by first | omega | exact Nat.le_refl _⟩, ⟨by (with_reducible repeat (first | refine blk_drewN ?_ _ | refine blk_drew ?_ | refine blk_alloc ?_ _)); exact BK169.out⟩, ⟨by (with_reducible repeat (first | refine blk_drewN ?_ _ | refine blk_drew ?_ | refine blk_alloc ?_ _)); exact BK172.out⟩, ⟨by repeat (first | (with_reducible first | exact HB.out | apply below_alloc | apply pw_below_drewN | apply below_drew1 | refine below_set ?_ GE169.out | refine below_set ?_ GE172.out) | exact HB.out)⟩⟩
            · rw [if_neg c40] at H
              have c40b0 : (t182 == (wrap64 (Int.tdiv (wrap64 (2000000 * t174)) 96))) = false := beq_eq_false_iff_ne.mpr c40
              have c40b1 : (t182 != (wrap64 (Int.tdiv (wrap64 (2000000 * t174)) 96))) = true := bne_iff_ne.mpr c40
              have H' := Aside0.mk H
              clear H
              go_wp2
              go_meet
              case rel => exact ⟨_, (true), (by first | rfl | (simp; done) | (simp [*]; done)), H', ⟨by first | omega | exact Nat.le_refl _⟩, ⟨by (with_reducible repeat (first | refine blk_drewN ?_ _ | refine blk_drew ?_ | refine blk_alloc ?_ _)); exact BK169.out⟩, ⟨by (with_reducible repeat (first | refine blk_drewN ?_ _ | refine blk_drew ?_ | refine blk_alloc ?_ _)); exact BK172.out⟩, ⟨by repeat (first | (with_reducible first | exact HB.out | apply below_alloc | apply pw_below_drewN | apply below_drew1 | refine below_set ?_ GE169.out | refine below_set ?_ GE172.out) | exact HB.out)⟩⟩
          · rw [if_neg c39] at H
            have c39b0 : (t185 == 0) = false := beq_eq_false_iff_ne.mpr c39
            have c39b1 : (t185 != 0) = true := bne_iff_ne.mpr c39
            have H' := Aside0.mk H
            clear H
            go_wp2
            go_meet
            case rel => exact ⟨_, (true), (by first | rfl | (simp; done) | (simp [*]; done)), H', ⟨by first | omega | exact Nat.le_refl _⟩, ⟨by (with_reducible repeat (first | refine blk_drewN ?_ _ | refine blk_drew ?_ | refine blk_alloc ?_ _)); exact BK169.out⟩, ⟨by (with_reducible repeat (first | refine blk_drewN ?_ _ | refine blk_drew ?_ | refine blk_alloc ?_ _)); exact BK172.out⟩, ⟨by repeat (first | (with_reducible first | exact HB.out | apply below_alloc | apply pw_below_drewN | apply below_drew1 | refine below_set ?_ GE169.out | refine below_set ?_ GE172.out) | exact HB.out)⟩⟩
        · rw [if_neg c38] at H
          have c38b0 : (t183 == 0) = false := beq_eq_false_iff_ne.mpr c38
          have c38b1 : (t183 != 0) = true := bne_iff_ne.mpr c38
          have H' := Aside0.mk H
          clear H
          go_wp2
          go_meet
          case rel => exact ⟨_, (true), (by first | rfl | (simp; done) | (simp [*]; done)), H', ⟨by first | omega | exact Nat.le_refl _⟩, ⟨by (with_reducible repeat (first | refine blk_drewN ?_ _ | refine blk_drew ?_ | refine blk_alloc ?_ _)); exact BK169.out⟩, ⟨by (with_reducible repeat (first | refine blk_drewN ?_ _ | refine blk_drew ?_ | refine blk_alloc ?_ _)); exact BK172.out⟩, ⟨by repeat (first | (with_reducible first | exact HB.out | apply below_alloc | apply pw_below_drewN | apply below_drew1 | refine below_set ?_ GE169.out | refine below_set ?_ GE172.out) | exact HB.out)⟩⟩
      · rw [if_neg c37] at H
        have c37b0 : (t181 == 0) = false := beq_eq_false_iff_ne.mpr c37
        have c37b1 : (t181 != 0) = true := bne_iff_ne.mpr c37
        have H' := Aside0.mk H
        clear H
        go_wp2
        go_meet
        case rel => exact ⟨_, (true), (by first | rfl | (simp; done) | (simp [*]; done)), H', ⟨by first | omega | exact Nat.le_refl _⟩, ⟨by (with_reducible repeat (first | refine blk_drewN ?_ _ | refine blk_drew ?_ | refine blk_alloc ?_ _)); exact BK169.out⟩, ⟨by (with_reducible repeat (first | refine blk_drewN ?_ _ | refine blk_drew ?_ | refine blk_alloc ?_ _)); exact BK172.out⟩, ⟨by repeat (first | (with_reducible first | exact HB.out | apply below_alloc | apply pw_below_drewN | apply below_drew1 | refine below_set ?_ GE169.out | refine below_set ?_ GE172.out) | exact HB.out)⟩⟩
    · rw [if_neg c36] at H
      have c36b0 : (t179 == 0) = false := beq_eq_false_iff_ne.mpr c36
      have c36b1 : (t179 != 0) = true := bne_iff_ne.mpr c36
      (first | rw [c36b0] | (simp only [i64_w, i32_w]; rw [c36b0]) | skip)
      have H' := Aside0.mk H
      clear H
      go_wp2
      go_meet
      case rel => exact ⟨_, (true), (by first | rfl | (simp; done) | (simp [*]; done)), H', ⟨by first | omega | exact Nat.le_refl _⟩, ⟨by (with_reducible repeat (first | refine blk_drewN ?_ _ | refine blk_drew ?_ | refine blk_alloc ?_ _)); exact BK169.out⟩, ⟨by (with_reducible repeat (first | refine blk_drewN ?_ _ | refine blk_drew ?_ | refine blk_alloc ?_ _)); exact BK172.out⟩, ⟨by repeat (first | (with_reducible first | exact HB.out | apply below_alloc | apply pw_below_drewN | apply below_drew1 | refine below_set ?_ GE169.out | refine below_set ?_ GE172.out) | exact HB.out)⟩⟩
  case rest =>
    clear HC15
    try clear c1
    try clear c2
    try clear p2
    try clear c3
    try clear c4
    try clear p6
    try clear c11
    try clear c13
    try clear c15
    try clear c16
    try clear c17
    try clear c22
    try clear c36
    try clear c36b0
    try clear c36b1
    try clear c37
    try clear c37b0
    try clear c37b1
    try clear c38
    try clear c38b0
    try clear c38b1
    try clear c39
    try clear c39b0
    try clear c39b1
    try clear c40
    try clear c40b0
    try clear c40b1
    try clear hcz19_0
    try clear hcz19_1
    try clear hcz23_0
    try clear hcz23_1
    try clear hcz24_0
    try clear hcz24_1
    try clear hcz27_0
    try clear hcz27_1
    try clear hcz30_0
    try clear hcz30_1
    try clear hcz32_0
    try clear hcz32_1
    try clear hcz34_0
    try clear hcz34_1
    try clear hfz19_0
    try clear hfz19_1
    try clear hfz23_0
    try clear hfz23_1
    try clear hfz24_0
    try clear hfz24_1
    try clear hfz27_0
    try clear hfz27_1
    try clear hfz30_0
    try clear hfz30_1
    try clear hfz32_0
    try clear hfz32_1
    try clear hfz34_0
    try clear hfz34_1
    obtain ⟨kq, x87_14, rfl, HA, HJ14, BK169, BK172, HB⟩ := hcut
    cases kq with
    | zero => exact absurd HA.out (by simp [partitalaw11_TempoPlain.j0])
    | succ kj14 =>
      have H := HA.out
      clear HA
      simp only [partitalaw11_TempoPlain.j0] at H
      by_cases c41 : x87_14 = true
      · subst c41
        have H1 : none = some r := by rw [if_pos rfl] at H; exact H
        cases H1
      · replace c41 := Bool.eq_false_iff.mpr c41
        subst c41
        have H1 : (if t174 < t173 then (if t165 = true then (if t178 = 500000 then (some (t180 == t182)) else none) else none) else (if t165 = true then (if t178 = (wrap64 (100000 + t166)) then (some (t180 == (wrap64 ((wrap64 (Int.tdiv (wrap64 (2000000 * t173)) 96)) + (wrap64 (Int.tdiv (wrap64 ((wrap64 (4 * (wrap64 (100000 + t166)))) * (wrap64 (t174 - t173)))) 96)))))) else none) else none)) = some r := by rw [if_neg (show ¬ (false = true) by decide)] at H; exact H
        clear H
        have H := H1
        clear H1
        by_cases c42 : t174 < t173
        · rw [if_pos c42] at H
          have c42b0 : decide (t174 < t173) = true := decide_eq_true c42
          clear c42
          by_cases c43 : t165 = true
          · subst c43
            have H1 : (if t178 = 500000 then (some (t180 == t182)) else none) = some r := by rw [if_pos rfl] at H; exact H
            clear H
            have H := H1
            clear H1
            by_cases c44 : t178 = 500000
            · rw [if_pos c44] at H
              have c44b0 : (t178 == 500000) = true := beq_iff_eq.mpr c44
              have c44b1 : (t178 != 500000) = false := bne_eq_false_iff_eq.mpr c44
              clear c44
              obtain rfl := Option.some.inj H
              go_wp2
              go_ret
              exact ⟨by first | rfl | (simp [errW_none, errW_some] <;> rfl) | (simp [*, errW_none, errW_some] <;> rfl), by repeat (first | (with_reducible first | exact HB.out | apply below_alloc | apply pw_below_drewN | apply below_drew1 | refine below_set ?_ GE169.out | refine below_set ?_ GE172.out) | exact HB.out)⟩
            · rw [if_neg c44] at H
              cases H
          · replace c43 := Bool.eq_false_iff.mpr c43
            subst c43
            have H1 : none = some r := by rw [if_neg (show ¬ (false = true) by decide)] at H; exact H
            cases H1
        · rw [if_neg c42] at H
          have c42b0 : decide (t174 < t173) = false := decide_eq_false c42
          clear c42
          by_cases c45 : t165 = true
          · subst c45
            have H1 : (if t178 = (wrap64 (100000 + t166)) then (some (t180 == (wrap64 ((wrap64 (Int.tdiv (wrap64 (2000000 * t173)) 96)) + (wrap64 (Int.tdiv (wrap64 ((wrap64 (4 * (wrap64 (100000 + t166)))) * (wrap64 (t174 - t173)))) 96)))))) else none) = some r := by rw [if_pos rfl] at H; exact H
            clear H
            have H := H1
            clear H1
            by_cases c46 : t178 = (wrap64 (100000 + t166))
            · rw [if_pos c46] at H
              have c46b0 : (t178 == (wrap64 (100000 + t166))) = true := beq_iff_eq.mpr c46
              have c46b1 : (t178 != (wrap64 (100000 + t166))) = false := bne_eq_false_iff_eq.mpr c46
              clear c46
              obtain rfl := Option.some.inj H
              go_wp2
              go_ret
              exact ⟨by first | rfl | (simp [errW_none, errW_some] <;> rfl) | (simp [*, errW_none, errW_some] <;> rfl), by repeat (first | (with_reducible first | exact HB.out | apply below_alloc | apply pw_below_drewN | apply below_drew1 | refine below_set ?_ GE169.out | refine below_set ?_ GE172.out) | exact HB.out)⟩
            · rw [if_neg c46] at H
              cases H
          · replace c45 := Bool.eq_false_iff.mpr c45
            subst c45
            have H1 : none = some r := by rw [if_neg (show ¬ (false = true) by decide)] at H; exact H
            cases H1
end Go.Proofs.Ytchjlkokfgmjaaa.Q
