-- Written by a program of this session (myprint.py), function by function.
import Derived.Test.YtllccnijipgncaaDoorQ0
import Derived.Test.YtllccnijipgncaaDoorQ7
namespace Go.Proofs.YtllccnijipgncaaDoor.Q
open Go.RowKit Go.Proofs.YtllccnijipgncaaDoorW.PrintWords Go.Proofs.YtllccnijipgncaaDoorW.PrintLast Go.Proofs.YtllccnijipgncaaDoorW.PrintMore
attribute [local go_sem] max2_int min2_int max_two min_two max_three min_three max_four min_four   -- for this text's walks alone
set_option linter.unusedVariables false
set_option linter.unusedSimpArgs false

/-! ### partitaref18_Inside: function 22 -/
def partitaref18_Inside.l0 : Nat → ByteArray → Int → Option (Bool)
 | 0, _, _ => none
 | k + 1, x0, x3 => if x3 < (x0.size : Int) then (if 0 ≤ x3 then (if x3 ≤ (x0.size : Int) then ((partitaref06_Rune.f k (x0.extract (x3 : Int).toNat x0.size)).bind fun t144 => (if t144 = 0 then (some false) else (if (bt x0 x3) = 127 then (some false) else (if (bt x0 x3) < 32 then (if (bt x0 x3) = 10 then (partitaref18_Inside.l0 k x0 (wrap64 (x3 + t144))) else (if (bt x0 x3) = 9 then (partitaref18_Inside.l0 k x0 (wrap64 (x3 + t144))) else (some false))) else (partitaref18_Inside.l0 k x0 (wrap64 (x3 + t144))))))) else (none)) else (none)) else (some true)
def partitaref18_Inside.f (k : Nat) (a0 : ByteArray) : Option (Bool) := partitaref18_Inside.l0 k a0 0
theorem partitaref18_Inside.mono_l : ∀ k, (∀ y0 y1, LeO (partitaref18_Inside.l0 k y0 y1) (partitaref18_Inside.l0 (k + 1) y0 y1))
 | 0 => fun _ _ r h => by simp [partitaref18_Inside.l0] at h
 | k + 1 => by
  have ih0 := partitaref18_Inside.mono_l k
  · intro y0 y1
    unfold partitaref18_Inside.l0
    repeat' first
    | (with_reducible exact ih0 _ _)
    | (with_reducible exact partitaref06_Rune.mono _ _)
    | (with_reducible exact LeO.refl _)
    | (with_reducible exact LeO.none _)
    | (with_reducible refine LeO.ite ?_ ?_)
    | (with_reducible refine LeO.bind ?_ (fun _ => ?_))
    | exact ih0 _ _
    | exact partitaref06_Rune.mono _ _
    | exact LeO.none _
    | refine LeO.ite ?_ ?_
    | refine LeO.bind ?_ (fun _ => ?_)
theorem partitaref18_Inside.mono : ∀ a0 k, LeO (partitaref18_Inside.f k a0) (partitaref18_Inside.f (k + 1) a0) := by
 intro a0 k
 have ih0 := partitaref18_Inside.mono_l k
 unfold partitaref18_Inside.f
 repeat' first
  | (with_reducible exact ih0 _ _)
  | (with_reducible exact partitaref06_Rune.mono _ _)
  | (with_reducible exact LeO.refl _)
  | (with_reducible exact LeO.none _)
  | (with_reducible refine LeO.ite ?_ ?_)
  | (with_reducible refine LeO.bind ?_ (fun _ => ?_))
  | exact ih0 _ _
  | exact partitaref06_Rune.mono _ _
  | exact LeO.none _
  | refine LeO.ite ?_ ?_
  | refine LeO.bind ?_ (fun _ => ?_)
set_option maxHeartbeats 8000000 in
set_option maxRecDepth 100000 in
theorem partitaref18_Inside.calls (k : Nat) (a0 : ByteArray) (r : Bool) (w : World) (h : partitaref18_Inside.f k a0 = some r) :
 Calls Tryd.prog 22 #[.string a0] w fun e w' => e = .returned (.bool r) ∧ Drawn0 w w' := by
 have H : (partitaref18_Inside.l0 k a0 0) = some r := h
 clear h
 have H' := Aside0.mk H
 clear H
 go_enter Tryd.func22, Tryd.ntmps22
 go_wp2
 go_loopg [3] k (fun kq v3 w' => ∃ (x3_1 : Int), v3 = .int .i64 x3_1 ∧ Aside0 (partitaref18_Inside.l0 kq a0 x3_1 = some r) ∧ Aside0 (kq ≤ k) ∧ Drawn0 w w')
 case atStart => exact ⟨(0), (by first | rfl | (simp; done) | (simp [*]; done) | (simp [wrap64]; done)), H', ⟨Nat.le_refl _⟩, by repeat (first | exact Drawn0.refl _ | apply Drawn0.step)⟩
 case round =>
  clear H'
  obtain ⟨x3_1, rfl, HA, HK1, ⟨m1, rfl⟩⟩ := hrel
  cases gk with
  | zero => exact absurd HA.out (by simp [partitaref18_Inside.l0])
  | succ k1 =>
   have H := HA.out
   clear HA
   simp only [partitaref18_Inside.l0] at H
   by_cases c2 : x3_1 < (a0.size : Int)
   · rw [if_pos c2] at H
     have c2b0 : decide (x3_1 < (a0.size : Int)) = true := decide_eq_true c2
     clear c2
     by_cases c3 : 0 ≤ x3_1
     · rw [if_pos c3] at H
       have c3b0 := eq_true c3
       have c3b1 : decide (0 ≤ x3_1) = true := decide_eq_true c3
       clear c3
       by_cases c4 : x3_1 ≤ (a0.size : Int)
       · rw [if_pos c4] at H
         have c4b0 := eq_true c4
         have c4b1 : decide (x3_1 ≤ (a0.size : Int)) = true := decide_eq_true c4
         clear c4
         replace H := Option.bind_eq_some_iff.mp H
         obtain ⟨t144, A50, H⟩ := H
         replace H : (if t144 = 0 then (some false) else (if (bt a0 x3_1) = 127 then (some false) else (if (bt a0 x3_1) < 32 then (if (bt a0 x3_1) = 10 then (partitaref18_Inside.l0 k1 a0 (wrap64 (x3_1 + t144))) else (if (bt a0 x3_1) = 9 then (partitaref18_Inside.l0 k1 a0 (wrap64 (x3_1 + t144))) else (some false))) else (partitaref18_Inside.l0 k1 a0 (wrap64 (x3_1 + t144)))))) = some r := H
         have A5 := Aside0.mk A50
         clear A50
         by_cases c6 : t144 = 0
         · rw [if_pos c6] at H
           have c6b0 : (t144 == 0) = true := beq_iff_eq.mpr c6
           have c6b1 : (t144 != 0) = false := bne_eq_false_iff_eq.mpr c6
           clear c6
           obtain rfl := Option.some.inj H
           go_wp2_with (first | ((with_reducible refine gate_callee (f := 33) rfl ?_); refine goesL_ (some 12) rfl rfl Tryd.func33 (by kernel_rfl) rfl #[.string (a0.extract (x3_1 : Int).toNat a0.size)] rfl (by (try simp only [List.map_toArray, List.map_cons, List.map_nil]); first | done | rfl | (simp only [List.length_drop, List.length_take]; rfl)) ?_; (with_reducible refine (partitaref06_Rune.calls k1 (a0.extract (x3_1 : Int).toNat a0.size) t144 _ A5.out).mono ?_); rintro e w' ⟨rfl, ⟨nd, rfl⟩⟩; refine ⟨_, rfl, ?_⟩))
           go_ret
           exact ⟨by first | rfl | (simp; done) | (simp [*]; done), by repeat (first | exact Drawn0.refl _ | apply Drawn0.step)⟩
         · rw [if_neg c6] at H
           have c6b0 : (t144 == 0) = false := beq_eq_false_iff_ne.mpr c6
           have c6b1 : (t144 != 0) = true := bne_iff_ne.mpr c6
           by_cases c8 : (bt a0 x3_1) = 127
           · rw [if_pos c8] at H
             have c8b0 : ((bt a0 x3_1) == 127) = true := beq_iff_eq.mpr c8
             have c8b1 : ((bt a0 x3_1) != 127) = false := bne_eq_false_iff_eq.mpr c8
             clear c8
             obtain rfl := Option.some.inj H
             go_wp2_with (first | ((with_reducible refine gate_callee (f := 33) rfl ?_); refine goesL_ (some 12) rfl rfl Tryd.func33 (by kernel_rfl) rfl #[.string (a0.extract (x3_1 : Int).toNat a0.size)] rfl (by (try simp only [List.map_toArray, List.map_cons, List.map_nil]); first | done | rfl | (simp only [List.length_drop, List.length_take]; rfl)) ?_; (with_reducible refine (partitaref06_Rune.calls k1 (a0.extract (x3_1 : Int).toNat a0.size) t144 _ A5.out).mono ?_); rintro e w' ⟨rfl, ⟨nd, rfl⟩⟩; refine ⟨_, rfl, ?_⟩; have p7 : 0 ≤ (x3_1 : Int) := of_decide_eq_true (by first | (with_reducible assumption) | assumption); have q7 : x3_1 < (a0.size : Int) := of_decide_eq_true (by first | (with_reducible assumption) | assumption); have hx7 := bt_at a0 x3_1; replace p7 := eq_true p7; replace q7 := eq_true q7))
             go_ret
             exact ⟨by first | rfl | (simp; done) | (simp [*]; done), by repeat (first | exact Drawn0.refl _ | apply Drawn0.step)⟩
           · rw [if_neg c8] at H
             have c8b0 : ((bt a0 x3_1) == 127) = false := beq_eq_false_iff_ne.mpr c8
             have c8b1 : ((bt a0 x3_1) != 127) = true := bne_iff_ne.mpr c8
             by_cases c10 : (bt a0 x3_1) < 32
             · rw [if_pos c10] at H
               have c10b0 : decide ((bt a0 x3_1) < 32) = true := decide_eq_true c10
               clear c10
               by_cases c12 : (bt a0 x3_1) = 10
               · rw [if_pos c12] at H
                 have c12b0 : ((bt a0 x3_1) == 10) = true := beq_iff_eq.mpr c12
                 have c12b1 : ((bt a0 x3_1) != 10) = false := bne_eq_false_iff_eq.mpr c12
                 clear c12
                 have H' := Aside0.mk H
                 clear H
                 go_wp2_with (first | ((with_reducible refine gate_callee (f := 33) rfl ?_); refine goesL_ (some 12) rfl rfl Tryd.func33 (by kernel_rfl) rfl #[.string (a0.extract (x3_1 : Int).toNat a0.size)] rfl (by (try simp only [List.map_toArray, List.map_cons, List.map_nil]); first | done | rfl | (simp only [List.length_drop, List.length_take]; rfl)) ?_; (with_reducible refine (partitaref06_Rune.calls k1 (a0.extract (x3_1 : Int).toNat a0.size) t144 _ A5.out).mono ?_); rintro e w' ⟨rfl, ⟨nd, rfl⟩⟩; refine ⟨_, rfl, ?_⟩; have p7 : 0 ≤ (x3_1 : Int) := of_decide_eq_true (by first | (with_reducible assumption) | assumption); have q7 : x3_1 < (a0.size : Int) := of_decide_eq_true (by first | (with_reducible assumption) | assumption); have hx7 := bt_at a0 x3_1; replace p7 := eq_true p7; replace q7 := eq_true q7; have p9 : 0 ≤ (x3_1 : Int) := of_decide_eq_true (by first | (with_reducible assumption) | assumption); have q9 : x3_1 < (a0.size : Int) := of_decide_eq_true (by first | (with_reducible assumption) | assumption); have hx9 := bt_at a0 x3_1; replace p9 := eq_true p9; replace q9 := eq_true q9; have p11 : 0 ≤ (x3_1 : Int) := of_decide_eq_true (by first | (with_reducible assumption) | assumption); have q11 : x3_1 < (a0.size : Int) := of_decide_eq_true (by first | (with_reducible assumption) | assumption); have hx11 := bt_at a0 x3_1; replace p11 := eq_true p11; replace q11 := eq_true q11))
                 go_roundg k1
                 case measure => have := HK1.out; omega
                 case rel => exact ⟨(wrap64 (x3_1 + t144)), (by first | rfl | (simp; done) | (simp [*]; done) | (simp [wrap64]; done)), H', ⟨by have := HK1.out; omega⟩, by repeat (first | exact Drawn0.refl _ | apply Drawn0.step)⟩
               · rw [if_neg c12] at H
                 have c12b0 : ((bt a0 x3_1) == 10) = false := beq_eq_false_iff_ne.mpr c12
                 have c12b1 : ((bt a0 x3_1) != 10) = true := bne_iff_ne.mpr c12
                 by_cases c14 : (bt a0 x3_1) = 9
                 · rw [if_pos c14] at H
                   have c14b0 : ((bt a0 x3_1) == 9) = true := beq_iff_eq.mpr c14
                   have c14b1 : ((bt a0 x3_1) != 9) = false := bne_eq_false_iff_eq.mpr c14
                   clear c14
                   have H' := Aside0.mk H
                   clear H
                   go_wp2_with (first | ((with_reducible refine gate_callee (f := 33) rfl ?_); refine goesL_ (some 12) rfl rfl Tryd.func33 (by kernel_rfl) rfl #[.string (a0.extract (x3_1 : Int).toNat a0.size)] rfl (by (try simp only [List.map_toArray, List.map_cons, List.map_nil]); first | done | rfl | (simp only [List.length_drop, List.length_take]; rfl)) ?_; (with_reducible refine (partitaref06_Rune.calls k1 (a0.extract (x3_1 : Int).toNat a0.size) t144 _ A5.out).mono ?_); rintro e w' ⟨rfl, ⟨nd, rfl⟩⟩; refine ⟨_, rfl, ?_⟩; have p7 : 0 ≤ (x3_1 : Int) := of_decide_eq_true (by first | (with_reducible assumption) | assumption); have q7 : x3_1 < (a0.size : Int) := of_decide_eq_true (by first | (with_reducible assumption) | assumption); have hx7 := bt_at a0 x3_1; replace p7 := eq_true p7; replace q7 := eq_true q7; have p9 : 0 ≤ (x3_1 : Int) := of_decide_eq_true (by first | (with_reducible assumption) | assumption); have q9 : x3_1 < (a0.size : Int) := of_decide_eq_true (by first | (with_reducible assumption) | assumption); have hx9 := bt_at a0 x3_1; replace p9 := eq_true p9; replace q9 := eq_true q9; have p11 : 0 ≤ (x3_1 : Int) := of_decide_eq_true (by first | (with_reducible assumption) | assumption); have q11 : x3_1 < (a0.size : Int) := of_decide_eq_true (by first | (with_reducible assumption) | assumption); have hx11 := bt_at a0 x3_1; replace p11 := eq_true p11; replace q11 := eq_true q11; have p13 : 0 ≤ (x3_1 : Int) := of_decide_eq_true (by first | (with_reducible assumption) | assumption); have q13 : x3_1 < (a0.size : Int) := of_decide_eq_true (by first | (with_reducible assumption) | assumption); have hx13 := bt_at a0 x3_1; replace p13 := eq_true p13; replace q13 := eq_true q13))
                   go_roundg k1
                   case measure => have := HK1.out; omega
                   case rel => exact ⟨(wrap64 (x3_1 + t144)), (by first | rfl | (simp; done) | (simp [*]; done) | (simp [wrap64]; done)), H', ⟨by have := HK1.out; omega⟩, by repeat (first | exact Drawn0.refl _ | apply Drawn0.step)⟩
                 · rw [if_neg c14] at H
                   have c14b0 : ((bt a0 x3_1) == 9) = false := beq_eq_false_iff_ne.mpr c14
                   have c14b1 : ((bt a0 x3_1) != 9) = true := bne_iff_ne.mpr c14
                   obtain rfl := Option.some.inj H
                   go_wp2_with (first | ((with_reducible refine gate_callee (f := 33) rfl ?_); refine goesL_ (some 12) rfl rfl Tryd.func33 (by kernel_rfl) rfl #[.string (a0.extract (x3_1 : Int).toNat a0.size)] rfl (by (try simp only [List.map_toArray, List.map_cons, List.map_nil]); first | done | rfl | (simp only [List.length_drop, List.length_take]; rfl)) ?_; (with_reducible refine (partitaref06_Rune.calls k1 (a0.extract (x3_1 : Int).toNat a0.size) t144 _ A5.out).mono ?_); rintro e w' ⟨rfl, ⟨nd, rfl⟩⟩; refine ⟨_, rfl, ?_⟩; have p7 : 0 ≤ (x3_1 : Int) := of_decide_eq_true (by first | (with_reducible assumption) | assumption); have q7 : x3_1 < (a0.size : Int) := of_decide_eq_true (by first | (with_reducible assumption) | assumption); have hx7 := bt_at a0 x3_1; replace p7 := eq_true p7; replace q7 := eq_true q7; have p9 : 0 ≤ (x3_1 : Int) := of_decide_eq_true (by first | (with_reducible assumption) | assumption); have q9 : x3_1 < (a0.size : Int) := of_decide_eq_true (by first | (with_reducible assumption) | assumption); have hx9 := bt_at a0 x3_1; replace p9 := eq_true p9; replace q9 := eq_true q9; have p11 : 0 ≤ (x3_1 : Int) := of_decide_eq_true (by first | (with_reducible assumption) | assumption); have q11 : x3_1 < (a0.size : Int) := of_decide_eq_true (by first | (with_reducible assumption) | assumption); have hx11 := bt_at a0 x3_1; replace p11 := eq_true p11; replace q11 := eq_true q11; have p13 : 0 ≤ (x3_1 : Int) := of_decide_eq_true (by first | (with_reducible assumption) | assumption); have q13 : x3_1 < (a0.size : Int) := of_decide_eq_true (by first | (with_reducible assumption) | assumption); have hx13 := bt_at a0 x3_1; replace p13 := eq_true p13; replace q13 := eq_true q13))
                   go_ret
                   exact ⟨by first | rfl | (simp; done) | (simp [*]; done), by repeat (first | exact Drawn0.refl _ | apply Drawn0.step)⟩
             · rw [if_neg c10] at H
               have c10b0 : decide ((bt a0 x3_1) < 32) = false := decide_eq_false c10
               clear c10
               have H' := Aside0.mk H
               clear H
               go_wp2_with (first | ((with_reducible refine gate_callee (f := 33) rfl ?_); refine goesL_ (some 12) rfl rfl Tryd.func33 (by kernel_rfl) rfl #[.string (a0.extract (x3_1 : Int).toNat a0.size)] rfl (by (try simp only [List.map_toArray, List.map_cons, List.map_nil]); first | done | rfl | (simp only [List.length_drop, List.length_take]; rfl)) ?_; (with_reducible refine (partitaref06_Rune.calls k1 (a0.extract (x3_1 : Int).toNat a0.size) t144 _ A5.out).mono ?_); rintro e w' ⟨rfl, ⟨nd, rfl⟩⟩; refine ⟨_, rfl, ?_⟩; have p7 : 0 ≤ (x3_1 : Int) := of_decide_eq_true (by first | (with_reducible assumption) | assumption); have q7 : x3_1 < (a0.size : Int) := of_decide_eq_true (by first | (with_reducible assumption) | assumption); have hx7 := bt_at a0 x3_1; replace p7 := eq_true p7; replace q7 := eq_true q7; have p9 : 0 ≤ (x3_1 : Int) := of_decide_eq_true (by first | (with_reducible assumption) | assumption); have q9 : x3_1 < (a0.size : Int) := of_decide_eq_true (by first | (with_reducible assumption) | assumption); have hx9 := bt_at a0 x3_1; replace p9 := eq_true p9; replace q9 := eq_true q9))
               go_roundg k1
               case measure => have := HK1.out; omega
               case rel => exact ⟨(wrap64 (x3_1 + t144)), (by first | rfl | (simp; done) | (simp [*]; done) | (simp [wrap64]; done)), H', ⟨by have := HK1.out; omega⟩, by repeat (first | exact Drawn0.refl _ | apply Drawn0.step)⟩
       · rw [if_neg c4] at H
         exact absurd H (by simp)
     · rw [if_neg c3] at H
       exact absurd H (by simp)
   · rw [if_neg c2] at H
     have c2b0 : decide (x3_1 < (a0.size : Int)) = false := decide_eq_false c2
     clear c2
     obtain rfl := Option.some.inj H
     go_wp2
     go_ret
     exact ⟨by first | rfl | (simp; done) | (simp [*]; done), by repeat (first | exact Drawn0.refl _ | apply Drawn0.step)⟩

/-! ### partitaref18_stands: function 52 -/
def partitaref18_stands.j0 : Nat → Int → Int → Bool → Option (Int)
 | 0, _, _, _ => none
 | k + 1, x0, x3, x4 => if x4 = true then (some x0) else (if x3 = 110 then (some 10) else (if x3 = 116 then (some 9) else (some 0)))
def partitaref18_stands.f (k : Nat) (a0 : Int) : Option (Int) := if a0 = 34 then (partitaref18_stands.j0 k a0 a0 (a0 == 34)) else (partitaref18_stands.j0 k a0 a0 (a0 == 92))
theorem partitaref18_stands.mono_l : ∀ k, (∀ y0 y1 y2, LeO (partitaref18_stands.j0 k y0 y1 y2) (partitaref18_stands.j0 (k + 1) y0 y1 y2))
 | 0 => fun _ _ _ r h => by simp [partitaref18_stands.j0] at h
 | k + 1 => by
  have ih0 := partitaref18_stands.mono_l k
  · intro y0 y1 y2
    unfold partitaref18_stands.j0
    repeat' first
    | (with_reducible exact ih0 _ _ _)
    | (with_reducible exact LeO.refl _)
    | (with_reducible exact LeO.none _)
    | (with_reducible refine LeO.ite ?_ ?_)
    | (with_reducible refine LeO.bind ?_ (fun _ => ?_))
    | exact ih0 _ _ _
    | exact LeO.none _
    | refine LeO.ite ?_ ?_
    | refine LeO.bind ?_ (fun _ => ?_)
theorem partitaref18_stands.mono : ∀ a0 k, LeO (partitaref18_stands.f k a0) (partitaref18_stands.f (k + 1) a0) := by
 intro a0 k
 have ih0 := partitaref18_stands.mono_l k
 unfold partitaref18_stands.f
 repeat' first
  | (with_reducible exact ih0 _ _ _)
  | (with_reducible exact LeO.refl _)
  | (with_reducible exact LeO.none _)
  | (with_reducible refine LeO.ite ?_ ?_)
  | (with_reducible refine LeO.bind ?_ (fun _ => ?_))
  | exact ih0 _ _ _
  | exact LeO.none _
  | refine LeO.ite ?_ ?_
  | refine LeO.bind ?_ (fun _ => ?_)
set_option maxHeartbeats 8000000 in
set_option maxRecDepth 100000 in
theorem partitaref18_stands.calls (k : Nat) (a0 : Int) (r : Int) (w : World) (h : partitaref18_stands.f k a0 = some r) :
 Calls Tryd.prog 52 #[.int .u8 a0] w fun e w' => e = .returned (.int .u8 r) ∧ Drawn0 w w' := by
 have H : (if a0 = 34 then (partitaref18_stands.j0 k a0 a0 (a0 == 34)) else (partitaref18_stands.j0 k a0 a0 (a0 == 92))) = some r := h
 clear h
 have HC2 := Aside0.mk H
 clear H
 go_enter Tryd.func52, Tryd.ntmps52
 go_upto_if 4 with (fail)
 go_cut [4] (fun v4 wc => ∃ (kq : Nat) (x4_1 : Bool), v4 = .bool x4_1 ∧ Aside0 (partitaref18_stands.j0 kq a0 a0 x4_1 = some r) ∧ Aside0 (kq ≤ k) ∧ Drawn0 w wc)
 case first =>
  have H := HC2.out
  clear HC2
  by_cases c3 : a0 = 34
  · rw [if_pos c3] at H
    have c3b0 : (a0 == 34) = true := beq_iff_eq.mpr c3
    have c3b1 : (a0 != 34) = false := bne_eq_false_iff_eq.mpr c3
    clear c3
    (first | rw [c3b0] | (simp only [i64_w, i32_w]; rw [c3b0]) | skip)
    have H' := Aside0.mk H
    clear H
    go_wp2
    go_meet
    case rel => exact ⟨_, ((a0 == 34)), (by first | rfl | (simp; done) | (simp [*]; done) | (simp [wrap64]; done)), H', ⟨by first | omega | exact Nat.le_refl _⟩, by repeat (first | exact Drawn0.refl _ | apply Drawn0.step)⟩
  · rw [if_neg c3] at H
    have c3b0 : (a0 == 34) = false := beq_eq_false_iff_ne.mpr c3
    have c3b1 : (a0 != 34) = true := bne_iff_ne.mpr c3
    (first | rw [c3b0] | (simp only [i64_w, i32_w]; rw [c3b0]) | skip)
    have H' := Aside0.mk H
    clear H
    go_wp2
    go_meet
    case rel => exact ⟨_, ((a0 == 92)), (by first | rfl | (simp; done) | (simp [*]; done) | (simp [wrap64]; done)), H', ⟨by first | omega | exact Nat.le_refl _⟩, by repeat (first | exact Drawn0.refl _ | apply Drawn0.step)⟩
 case rest =>
  clear HC2
  try clear p2
  try clear c3
  try clear c3b0
  try clear c3b1
  obtain ⟨kq, x4_1, rfl, HA, HJ1, ⟨mc1, rfl⟩⟩ := hcut
  cases kq with
  | zero => exact absurd HA.out (by simp [partitaref18_stands.j0])
  | succ kj1 =>
   have H := HA.out
   clear HA
   simp only [partitaref18_stands.j0] at H
   by_cases c4 : x4_1 = true
   · subst c4
     have H1 : (some a0) = some r := by rw [if_pos rfl] at H; exact H
     clear H
     have H := H1
     clear H1
     obtain rfl := Option.some.inj H
     go_wp2
     go_ret
     exact ⟨by first | rfl | (simp; done) | (simp [*]; done), by repeat (first | exact Drawn0.refl _ | apply Drawn0.step)⟩
   · replace c4 := Bool.eq_false_iff.mpr c4
     subst c4
     have H1 : (if a0 = 110 then (some 10) else (if a0 = 116 then (some 9) else (some 0))) = some r := by rw [if_neg (show ¬ (false = true) by decide)] at H; exact H
     clear H
     have H := H1
     clear H1
     by_cases c5 : a0 = 110
     · rw [if_pos c5] at H
       have c5b0 : (a0 == 110) = true := beq_iff_eq.mpr c5
       have c5b1 : (a0 != 110) = false := bne_eq_false_iff_eq.mpr c5
       clear c5
       obtain rfl := Option.some.inj H
       go_wp2
       go_ret
       exact ⟨by first | rfl | (simp; done) | (simp [*]; done), by repeat (first | exact Drawn0.refl _ | apply Drawn0.step)⟩
     · rw [if_neg c5] at H
       have c5b0 : (a0 == 110) = false := beq_eq_false_iff_ne.mpr c5
       have c5b1 : (a0 != 110) = true := bne_iff_ne.mpr c5
       by_cases c6 : a0 = 116
       · rw [if_pos c6] at H
         have c6b0 : (a0 == 116) = true := beq_iff_eq.mpr c6
         have c6b1 : (a0 != 116) = false := bne_eq_false_iff_eq.mpr c6
         clear c6
         obtain rfl := Option.some.inj H
         go_wp2
         go_ret
         exact ⟨by first | rfl | (simp; done) | (simp [*]; done), by repeat (first | exact Drawn0.refl _ | apply Drawn0.step)⟩
       · rw [if_neg c6] at H
         have c6b0 : (a0 == 116) = false := beq_eq_false_iff_ne.mpr c6
         have c6b1 : (a0 != 116) = true := bne_iff_ne.mpr c6
         obtain rfl := Option.some.inj H
         go_wp2
         go_ret
         exact ⟨by first | rfl | (simp; done) | (simp [*]; done), by repeat (first | exact Drawn0.refl _ | apply Drawn0.step)⟩

/-! ### partitaref18_quoted: function 40 -/
mutual
def partitaref18_quoted.l0 : Nat → ByteArray → List Int → Int → Option (ByteArray × Int)
 | 0, _, _, _ => none
 | k + 1, x0, x6, x7 => if x7 < (x0.size : Int) then (if 0 ≤ x7 then (partitaref18_quoted.j1 k x0 x6 x7 ((bt x0 x7) != 34)) else (none)) else (partitaref18_quoted.j1 k x0 x6 x7 false)
def partitaref18_quoted.j1 : Nat → ByteArray → List Int → Int → Bool → Option (ByteArray × Int)
 | 0, _, _, _, _ => none
 | k + 1, x0, x6, x7, x20 => if x20 = true then (if 0 ≤ x7 then (if x7 < (x0.size : Int) then (if (bt x0 x7) < 32 then (some ((⟨#[]⟩ : ByteArray), 0)) else (if (bt x0 x7) = 92 then (if (wrap64 (x7 + 1)) = (x0.size : Int) then (some ((⟨#[]⟩ : ByteArray), 0)) else (if 0 ≤ (wrap64 (x7 + 1)) then (if (wrap64 (x7 + 1)) < (x0.size : Int) then ((partitaref18_stands.f k (bt x0 (wrap64 (x7 + 1)))).bind fun t146 => (if t146 = 0 then (some ((⟨#[]⟩ : ByteArray), 0)) else ((partitaref18_stands.f k (bt x0 (wrap64 (x7 + 1)))).bind fun t147 => (if x6.length < 140737488355328 then (partitaref18_quoted.l0 k x0 (x6 ++ [t147]) (wrap64 ((wrap64 (x7 + 1)) + 1))) else (none))))) else (none)) else (none))) else (if x6.length < 140737488355328 then (partitaref18_quoted.l0 k x0 (x6 ++ [bt x0 x7]) (wrap64 (x7 + 1))) else (none)))) else (none)) else (none)) else (if x7 ≥ (x0.size : Int) then (some ((⟨#[]⟩ : ByteArray), 0)) else ((partitaref18_Inside.f k (strOfNums x6)).bind fun t145 => (if t145 = true then (some (strOfNums x6, wrap64 (x7 + 1))) else (some ((⟨#[]⟩ : ByteArray), 0)))))
end
def partitaref18_quoted.f (k : Nat) (a0 : ByteArray) (a1 : Int) : Option (ByteArray × Int) := partitaref18_quoted.l0 k a0 ([] : List Int) (wrap64 (a1 + 1))
theorem partitaref18_quoted.mono_l : ∀ k, (∀ y0 y1 y2, LeO (partitaref18_quoted.l0 k y0 y1 y2) (partitaref18_quoted.l0 (k + 1) y0 y1 y2)) ∧ (∀ y0 y1 y2 y3, LeO (partitaref18_quoted.j1 k y0 y1 y2 y3) (partitaref18_quoted.j1 (k + 1) y0 y1 y2 y3))
 | 0 => ⟨fun _ _ _ r h => by simp [partitaref18_quoted.l0] at h, fun _ _ _ _ r h => by simp [partitaref18_quoted.j1] at h⟩
 | k + 1 => by
  obtain ⟨ih0, ih1⟩ := partitaref18_quoted.mono_l k
  refine ⟨?_, ?_⟩
  · intro y0 y1 y2
    unfold partitaref18_quoted.l0
    repeat' first
    | (with_reducible exact ih0 _ _ _)
    | (with_reducible exact ih1 _ _ _ _)
    | (with_reducible exact partitaref18_Inside.mono _ _)
    | (with_reducible exact partitaref18_stands.mono _ _)
    | (with_reducible exact LeO.refl _)
    | (with_reducible exact LeO.none _)
    | (with_reducible refine LeO.ite ?_ ?_)
    | (with_reducible refine LeO.bind ?_ (fun _ => ?_))
    | exact ih0 _ _ _
    | exact ih1 _ _ _ _
    | exact partitaref18_Inside.mono _ _
    | exact partitaref18_stands.mono _ _
    | exact LeO.none _
    | refine LeO.ite ?_ ?_
    | refine LeO.bind ?_ (fun _ => ?_)
  · intro y0 y1 y2 y3
    unfold partitaref18_quoted.j1
    repeat' first
    | (with_reducible exact ih0 _ _ _)
    | (with_reducible exact ih1 _ _ _ _)
    | (with_reducible exact partitaref18_Inside.mono _ _)
    | (with_reducible exact partitaref18_stands.mono _ _)
    | (with_reducible exact LeO.refl _)
    | (with_reducible exact LeO.none _)
    | (with_reducible refine LeO.ite ?_ ?_)
    | (with_reducible refine LeO.bind ?_ (fun _ => ?_))
    | exact ih0 _ _ _
    | exact ih1 _ _ _ _
    | exact partitaref18_Inside.mono _ _
    | exact partitaref18_stands.mono _ _
    | exact LeO.none _
    | refine LeO.ite ?_ ?_
    | refine LeO.bind ?_ (fun _ => ?_)
theorem partitaref18_quoted.mono : ∀ a0 a1 k, LeO (partitaref18_quoted.f k a0 a1) (partitaref18_quoted.f (k + 1) a0 a1) := by
 intro a0 a1 k
 obtain ⟨ih0, ih1⟩ := partitaref18_quoted.mono_l k
 unfold partitaref18_quoted.f
 repeat' first
  | (with_reducible exact ih0 _ _ _)
  | (with_reducible exact ih1 _ _ _ _)
  | (with_reducible exact partitaref18_Inside.mono _ _)
  | (with_reducible exact partitaref18_stands.mono _ _)
  | (with_reducible exact LeO.refl _)
  | (with_reducible exact LeO.none _)
  | (with_reducible refine LeO.ite ?_ ?_)
  | (with_reducible refine LeO.bind ?_ (fun _ => ?_))
  | exact ih0 _ _ _
  | exact ih1 _ _ _ _
  | exact partitaref18_Inside.mono _ _
  | exact partitaref18_stands.mono _ _
  | exact LeO.none _
  | refine LeO.ite ?_ ?_
  | refine LeO.bind ?_ (fun _ => ?_)
set_option maxHeartbeats 8000000 in
set_option maxRecDepth 100000 in
theorem partitaref18_quoted.calls (k : Nat) (a0 : ByteArray) (a1 : Int) (r1 : ByteArray) (r2 : Int) (w : World) (h : partitaref18_quoted.f k a0 a1 = some (r1, r2)) :
 Calls Tryd.prog 40 #[.string a0, .int .i64 a1] w fun e w' => e = .returned (.tuple #[.string r1, .int .i64 r2]) ∧ Below w.heap.size w w' := by
 have HB := Aside0.mk (Below.refl w.heap.size w)
 have H : (partitaref18_quoted.l0 k a0 ([] : List Int) (wrap64 (a1 + 1))) = some (r1, r2) := h
 clear h
 have H' := Aside0.mk H
 clear H
 go_enter Tryd.func40, Tryd.ntmps40
 go_wp2
 go_loopg [6, 7] k (fun kq v6 v7 w' => ∃ (x6_1 : List Int) (x7_1 : Int), v7 = .int .i64 x7_1 ∧ Aside0 (partitaref18_quoted.l0 kq a0 x6_1 x7_1 = some (r1, r2)) ∧ Aside0 (kq ≤ k) ∧ Aside0 (Kd.R (Kd.int .u8) 5 w' w.heap.size (fun _ => True) v6 x6_1) ∧ Aside0 (Below w.heap.size w w'))
 case atStart => exact ⟨(([] : List Int)), (wrap64 (a1 + 1)), (by first | rfl | (simp; done) | (simp [*]; done) | (simp [wrap64]; done)), H', ⟨Nat.le_refl _⟩, ⟨by first | exact Kd.R_nil _ _ _ _ _ | exact Kd.N_nil _ _ _ _ _ | exact Kd.V_nil _ _ _ _ _ | exact Kd.Q_nil _ _ _ _ _ | exact Kd.S_nil _ _ _ _ _⟩, ⟨by repeat (first | (with_reducible first | exact HB.out | apply below_alloc | apply pw_below_drewN | apply below_drew1) | exact HB.out)⟩⟩
 case round =>
  clear H'
  try clear p2
  obtain ⟨x6_1, x7_1, rfl, HA, HK1, HO_6, HB⟩ := hrel
  cases gk with
  | zero => exact absurd HA.out (by simp [partitaref18_quoted.l0])
  | succ k1 =>
   have H := HA.out
   clear HA
   simp only [partitaref18_quoted.l0] at H
   have HC3 := Aside0.mk H
   clear H
   go_upto_region 3 with (fail)
   go_cut [20] (fun v20 wc => ∃ (kq : Nat) (x20_2 : Bool), v20 = .bool x20_2 ∧ Aside0 (partitaref18_quoted.j1 kq a0 x6_1 x7_1 x20_2 = some (r1, r2)) ∧ Aside0 (kq ≤ k1) ∧ Aside0 (Kd.R (Kd.int .u8) 5 wc w.heap.size (fun _ => True) u6 x6_1) ∧ Aside0 (Below w.heap.size w wc))
   case first =>
    have H := HC3.out
    clear HC3
    by_cases c4 : x7_1 < (a0.size : Int)
    · rw [if_pos c4] at H
      have c4b0 : decide (x7_1 < (a0.size : Int)) = true := decide_eq_true c4
      clear c4
      (first | rw [c4b0] | (simp only [i64_w, i32_w]; rw [c4b0]) | skip)
      by_cases c5 : 0 ≤ x7_1
      · rw [if_pos c5] at H
        have c5b0 : decide (0 ≤ x7_1) = true := decide_eq_true c5
        clear c5
        have H' := Aside0.mk H
        clear H
        have p6 : 0 ≤ (x7_1 : Int) := of_decide_eq_true (by first | (with_reducible assumption) | assumption)
        have q6 : x7_1 < (a0.size : Int) := of_decide_eq_true (by first | (with_reducible assumption) | assumption)
        have hx6 := bt_at a0 x7_1
        replace p6 := eq_true p6
        replace q6 := eq_true q6
        go_wp2
        go_meet
        case rel => exact ⟨_, (((bt a0 x7_1) != 34)), (by first | rfl | (simp; done) | (simp [*]; done) | (simp [wrap64]; done)), H', ⟨by have := HK1.out; first | omega | exact Nat.le_refl _⟩, ⟨by (with_reducible repeat (first | apply Kd.R_alloc | apply Kd.R_drewN | apply Kd.R_drew)); exact HO_6.out⟩, ⟨by repeat (first | (with_reducible first | exact HB.out | apply below_alloc | apply pw_below_drewN | apply below_drew1) | exact HB.out)⟩⟩
      · rw [if_neg c5] at H
        exact absurd H (by simp)
    · rw [if_neg c4] at H
      have c4b0 : decide (x7_1 < (a0.size : Int)) = false := decide_eq_false c4
      clear c4
      (first | rw [c4b0] | (simp only [i64_w, i32_w]; rw [c4b0]) | skip)
      have H' := Aside0.mk H
      clear H
      go_wp2
      go_meet
      case rel => exact ⟨_, (false), (by first | rfl | (simp; done) | (simp [*]; done) | (simp [wrap64]; done)), H', ⟨by have := HK1.out; first | omega | exact Nat.le_refl _⟩, ⟨by (with_reducible repeat (first | apply Kd.R_alloc | apply Kd.R_drewN | apply Kd.R_drew)); exact HO_6.out⟩, ⟨by repeat (first | (with_reducible first | exact HB.out | apply below_alloc | apply pw_below_drewN | apply below_drew1) | exact HB.out)⟩⟩
   case rest =>
    clear HC3
    try clear p2
    try clear c4
    try clear c4b0
    try clear c5
    try clear c5b0
    try clear p6
    try clear q6
    try clear hx6
    try clear p2
    try clear p6
    try clear q6
    obtain ⟨kq, x20_2, rfl, HA, HJ2, HO_6, HB⟩ := hcut
    cases kq with
    | zero => exact absurd HA.out (by simp [partitaref18_quoted.j1])
    | succ kj2 =>
     have H := HA.out
     clear HA
     simp only [partitaref18_quoted.j1] at H
     by_cases c7 : x20_2 = true
     · subst c7
       have H1 : (if 0 ≤ x7_1 then (if x7_1 < (a0.size : Int) then (if (bt a0 x7_1) < 32 then (some ((⟨#[]⟩ : ByteArray), 0)) else (if (bt a0 x7_1) = 92 then (if (wrap64 (x7_1 + 1)) = (a0.size : Int) then (some ((⟨#[]⟩ : ByteArray), 0)) else (if 0 ≤ (wrap64 (x7_1 + 1)) then (if (wrap64 (x7_1 + 1)) < (a0.size : Int) then ((partitaref18_stands.f kj2 (bt a0 (wrap64 (x7_1 + 1)))).bind fun t146 => (if t146 = 0 then (some ((⟨#[]⟩ : ByteArray), 0)) else ((partitaref18_stands.f kj2 (bt a0 (wrap64 (x7_1 + 1)))).bind fun t147 => (if x6_1.length < 140737488355328 then (partitaref18_quoted.l0 kj2 a0 (x6_1 ++ [t147]) (wrap64 ((wrap64 (x7_1 + 1)) + 1))) else (none))))) else (none)) else (none))) else (if x6_1.length < 140737488355328 then (partitaref18_quoted.l0 kj2 a0 (x6_1 ++ [bt a0 x7_1]) (wrap64 (x7_1 + 1))) else (none)))) else (none)) else (none)) = some (r1, r2) := by rw [if_pos rfl] at H; exact H
       clear H
       have H := H1
       clear H1
       by_cases c8 : 0 ≤ x7_1
       · rw [if_pos c8] at H
         have c8b0 : decide (0 ≤ x7_1) = true := decide_eq_true c8
         clear c8
         by_cases c9 : x7_1 < (a0.size : Int)
         · rw [if_pos c9] at H
           have c9b0 : decide (x7_1 < (a0.size : Int)) = true := decide_eq_true c9
           clear c9
           by_cases c11 : (bt a0 x7_1) < 32
           · rw [if_pos c11] at H
             have c11b0 : decide ((bt a0 x7_1) < 32) = true := decide_eq_true c11
             clear c11
             simp only [Option.some.injEq, Prod.mk.injEq] at H
             obtain ⟨rfl, rfl⟩ := H
             have p10 : 0 ≤ (x7_1 : Int) := of_decide_eq_true (by first | (with_reducible assumption) | assumption)
             have q10 : x7_1 < (a0.size : Int) := of_decide_eq_true (by first | (with_reducible assumption) | assumption)
             have hx10 := bt_at a0 x7_1
             replace p10 := eq_true p10
             replace q10 := eq_true q10
             go_wp2
             go_ret2
             exact ⟨by first | rfl | (simp [errW_none, errW_some] <;> rfl) | (simp [*, errW_none, errW_some] <;> rfl), by repeat (first | (with_reducible first | exact HB.out | apply below_alloc | apply pw_below_drewN | apply below_drew1) | exact HB.out)⟩
           · rw [if_neg c11] at H
             have c11b0 : decide ((bt a0 x7_1) < 32) = false := decide_eq_false c11
             clear c11
             by_cases c12 : (bt a0 x7_1) = 92
             · rw [if_pos c12] at H
               have c12b0 : ((bt a0 x7_1) == 92) = true := beq_iff_eq.mpr c12
               have c12b1 : ((bt a0 x7_1) != 92) = false := bne_eq_false_iff_eq.mpr c12
               clear c12
               by_cases c13 : (wrap64 (x7_1 + 1)) = (a0.size : Int)
               · rw [if_pos c13] at H
                 have c13b0 : ((wrap64 (x7_1 + 1)) == (a0.size : Int)) = true := beq_iff_eq.mpr c13
                 have c13b1 : ((wrap64 (x7_1 + 1)) != (a0.size : Int)) = false := bne_eq_false_iff_eq.mpr c13
                 clear c13
                 simp only [Option.some.injEq, Prod.mk.injEq] at H
                 obtain ⟨rfl, rfl⟩ := H
                 have p10 : 0 ≤ (x7_1 : Int) := of_decide_eq_true (by first | (with_reducible assumption) | assumption)
                 have q10 : x7_1 < (a0.size : Int) := of_decide_eq_true (by first | (with_reducible assumption) | assumption)
                 have hx10 := bt_at a0 x7_1
                 replace p10 := eq_true p10
                 replace q10 := eq_true q10
                 go_wp2
                 go_ret2
                 exact ⟨by first | rfl | (simp [errW_none, errW_some] <;> rfl) | (simp [*, errW_none, errW_some] <;> rfl), by repeat (first | (with_reducible first | exact HB.out | apply below_alloc | apply pw_below_drewN | apply below_drew1) | exact HB.out)⟩
               · rw [if_neg c13] at H
                 have c13b0 : ((wrap64 (x7_1 + 1)) == (a0.size : Int)) = false := beq_eq_false_iff_ne.mpr c13
                 have c13b1 : ((wrap64 (x7_1 + 1)) != (a0.size : Int)) = true := bne_iff_ne.mpr c13
                 obtain ⟨ji14, hji14⟩ : ∃ j_ : Int, (wrap64 (x7_1 + 1)) = j_ := ⟨_, rfl⟩
                 replace H : (if 0 ≤ (ji14) then (if (ji14) < (a0.size : Int) then ((partitaref18_stands.f kj2 (bt a0 (ji14))).bind fun t146 => (if t146 = 0 then (some ((⟨#[]⟩ : ByteArray), 0)) else ((partitaref18_stands.f kj2 (bt a0 (ji14))).bind fun t147 => (if x6_1.length < 140737488355328 then (partitaref18_quoted.l0 kj2 a0 (x6_1 ++ [t147]) (wrap64 ((ji14) + 1))) else (none))))) else (none)) else (none)) = some (r1, r2) := by first | (rw [hji14] at H; exact H) | (simp only [hji14] at H ⊢; exact H)
                 (try rw [hji14] at c13b0)
                 (try rw [hji14] at c13b1)
                 have hji14w : (IntKind.i64.wrap (x7_1 + 1)) = ji14 := (i64_w _).trans hji14
                 by_cases c15 : 0 ≤ (ji14)
                 · rw [if_pos c15] at H
                   have c15b0 : decide (0 ≤ (ji14)) = true := decide_eq_true c15
                   clear c15
                   by_cases c16 : (ji14) < (a0.size : Int)
                   · rw [if_pos c16] at H
                     have c16b0 : decide ((ji14) < (a0.size : Int)) = true := decide_eq_true c16
                     clear c16
                     replace H := Option.bind_eq_some_iff.mp H
                     obtain ⟨t146, A180, H⟩ := H
                     replace H : (if t146 = 0 then (some ((⟨#[]⟩ : ByteArray), 0)) else ((partitaref18_stands.f kj2 (bt a0 (ji14))).bind fun t147 => (if x6_1.length < 140737488355328 then (partitaref18_quoted.l0 kj2 a0 (x6_1 ++ [t147]) (wrap64 ((ji14) + 1))) else (none)))) = some (r1, r2) := H
                     have A18 := Aside0.mk A180
                     clear A180
                     by_cases c19 : t146 = 0
                     · rw [if_pos c19] at H
                       have c19b0 : (t146 == 0) = true := beq_iff_eq.mpr c19
                       have c19b1 : (t146 != 0) = false := bne_eq_false_iff_eq.mpr c19
                       clear c19
                       simp only [Option.some.injEq, Prod.mk.injEq] at H
                       obtain ⟨rfl, rfl⟩ := H
                       have p10 : 0 ≤ (x7_1 : Int) := of_decide_eq_true (by first | (with_reducible assumption) | assumption)
                       have q10 : x7_1 < (a0.size : Int) := of_decide_eq_true (by first | (with_reducible assumption) | assumption)
                       have hx10 := bt_at a0 x7_1
                       replace p10 := eq_true p10
                       replace q10 := eq_true q10
                       have p17 : 0 ≤ ((ji14) : Int) := of_decide_eq_true (by first | (with_reducible assumption) | assumption)
                       have q17 : (ji14) < (a0.size : Int) := of_decide_eq_true (by first | (with_reducible assumption) | assumption)
                       have hx17 := bt_at a0 (ji14)
                       replace p17 := eq_true p17
                       replace q17 := eq_true q17
                       go_wp2_with (first | (go_at_call 52; (with_reducible refine (partitaref18_stands.calls kj2 (bt a0 (ji14)) t146 _ A18.out).mono ?_); rintro e w' ⟨rfl, ⟨nd, rfl⟩⟩))
                       go_ret2
                       exact ⟨by first | rfl | (simp [errW_none, errW_some] <;> rfl) | (simp only [← hji14]; first | rfl | (simp [errW_none, errW_some] <;> rfl)) | (simp [*, errW_none, errW_some] <;> rfl), by repeat (first | (with_reducible first | exact HB.out | apply below_alloc | apply pw_below_drewN | apply below_drew1) | exact HB.out)⟩
                     · rw [if_neg c19] at H
                       have c19b0 : (t146 == 0) = false := beq_eq_false_iff_ne.mpr c19
                       have c19b1 : (t146 != 0) = true := bne_iff_ne.mpr c19
                       replace H := Option.bind_eq_some_iff.mp H
                       obtain ⟨t147, A210, H⟩ := H
                       replace H : (if x6_1.length < 140737488355328 then (partitaref18_quoted.l0 kj2 a0 (x6_1 ++ [t147]) (wrap64 ((ji14) + 1))) else (none)) = some (r1, r2) := H
                       have A21 := Aside0.mk A210
                       clear A210
                       by_cases c22 : x6_1.length < 140737488355328
                       · rw [if_pos c22] at H
                         have LMc22 := Aside0.mk c22
                         clear c22
                         obtain ⟨y148, hy148⟩ : ∃ y_ : List Int, y_ = (x6_1 ++ [t147]) := ⟨_, rfl⟩
                         replace H : (partitaref18_quoted.l0 kj2 a0 y148 (wrap64 ((ji14) + 1))) = some (r1, r2) := by first | (rw [hy148]; with_reducible exact H) | (have H2_ := (Option.bind_some _ _).symm.trans H; rw [hy148]; with_reducible exact H2_) | (have H2_ := (Option.bind_some _ _).symm.trans H; with_reducible exact H2_) | with_reducible exact H | (rw [hy148]; exact H) | exact H
                         have Ny148 := Aside0.mk hy148
                         clear hy148
                         have H' := Aside0.mk H
                         clear H
                         have p10 : 0 ≤ (x7_1 : Int) := of_decide_eq_true (by first | (with_reducible assumption) | assumption)
                         have q10 : x7_1 < (a0.size : Int) := of_decide_eq_true (by first | (with_reducible assumption) | assumption)
                         have hx10 := bt_at a0 x7_1
                         replace p10 := eq_true p10
                         replace q10 := eq_true q10
                         have p17 : 0 ≤ ((ji14) : Int) := of_decide_eq_true (by first | (with_reducible assumption) | assumption)
                         have q17 : (ji14) < (a0.size : Int) := of_decide_eq_true (by first | (with_reducible assumption) | assumption)
                         have hx17 := bt_at a0 (ji14)
                         replace p17 := eq_true p17
                         replace q17 := eq_true q17
                         go_wp2_with (first | (go_at_call 52; (with_reducible refine (partitaref18_stands.calls kj2 (bt a0 (ji14)) t146 _ A18.out).mono ?_); rintro e w' ⟨rfl, ⟨nd, rfl⟩⟩; have p20 : 0 ≤ ((ji14) : Int) := of_decide_eq_true (by first | (with_reducible assumption) | assumption); have q20 : (ji14) < (a0.size : Int) := of_decide_eq_true (by first | (with_reducible assumption) | assumption); have hx20 := bt_at a0 (ji14); replace p20 := eq_true p20; replace q20 := eq_true q20) | ((with_reducible refine gate_callee (f := 52) rfl ?_); refine goesL_ (some 44) rfl rfl Tryd.func52 (by kernel_rfl) rfl #[.int .u8 (bt a0 (ji14))] rfl (by (try simp only [List.map_toArray, List.map_cons, List.map_nil]); first | done | (simp only [hji14]; rfl) | rfl | (simp only [List.length_drop, List.length_take]; rfl)) ?_; (with_reducible refine (partitaref18_stands.calls kj2 (bt a0 (ji14)) t147 _ A21.out).mono ?_); rintro e w' ⟨rfl, ⟨nd, rfl⟩⟩; refine ⟨_, rfl, ?_⟩) | ((with_reducible refine gate_builtin (b := .append) (xs := #[.tmp 45, .tmp 47]) rfl ?_); at_builtin; refine Kd.R_append (Kd.int .u8) (w0 := w) w.heap.size rfl (.tmp 45) (.tmp 47) 42 5 (.int .u8 0) 1 rfl Tryd.underlying42 info5 rfl (by decide) (by omega) u6 x6_1 t147 [.int .u8 t147] (fun _ => True) (fun _ => False) rfl rfl ?aP (fun _ hk => hk.elim) ?aF ?aO ?aB ?aS ?aL ?_; (case aP => exact rfl); (case aB => exact (by repeat (first | (with_reducible first | exact HB.out | apply below_alloc | apply pw_below_drewN | apply below_drew1) | exact HB.out))); (case aF => exact (fun _ _ => trivial)); (case aO => exact (qR HO_6.out)); (case aS => exact (below_size (by repeat (first | (with_reducible first | exact HB.out | apply below_alloc | apply pw_below_drewN | apply below_drew1) | exact HB.out)))); (case aL => have := LMc22.out; omega); intro v149 w23 ho hb hg hat; rw [← Ny148.out] at ho; have n0_ := Aside0.mk (hb); have n1_ := Aside0.mk (ho); clear HB; clear HO_6; have HB := n0_; have HO150 := n1_; clear n0_ n1_; clear ho hb hg hat))
                         go_roundg kj2
                         case measure => have := HK1.out; have := HJ2.out; omega
                         case rel => exact ⟨(y148), (wrap64 ((ji14) + 1)), (by first | rfl | (simp; done) | (simp only [← hji14] <;> (first | rfl | simp)) | (simp [*]; done)), H', ⟨by have := HK1.out; have := HJ2.out; omega⟩, ⟨by (with_reducible repeat (first | apply Kd.R_alloc | apply Kd.R_drewN | apply Kd.R_drew)); exact HO150.out⟩, ⟨by repeat (first | (with_reducible first | exact HB.out | apply below_alloc | apply pw_below_drewN | apply below_drew1) | exact HB.out)⟩⟩
                       · rw [if_neg c22] at H
                         exact absurd H (by simp)
                   · rw [if_neg c16] at H
                     exact absurd H (by simp)
                 · rw [if_neg c15] at H
                   exact absurd H (by simp)
             · rw [if_neg c12] at H
               have c12b0 : ((bt a0 x7_1) == 92) = false := beq_eq_false_iff_ne.mpr c12
               have c12b1 : ((bt a0 x7_1) != 92) = true := bne_iff_ne.mpr c12
               by_cases c24 : x6_1.length < 140737488355328
               · rw [if_pos c24] at H
                 have LMc24 := Aside0.mk c24
                 clear c24
                 obtain ⟨y151, hy151⟩ : ∃ y_ : List Int, y_ = (x6_1 ++ [bt a0 x7_1]) := ⟨_, rfl⟩
                 replace H : (partitaref18_quoted.l0 kj2 a0 y151 (wrap64 (x7_1 + 1))) = some (r1, r2) := by first | (rw [hy151]; with_reducible exact H) | (have H2_ := (Option.bind_some _ _).symm.trans H; rw [hy151]; with_reducible exact H2_) | (have H2_ := (Option.bind_some _ _).symm.trans H; with_reducible exact H2_) | with_reducible exact H | (rw [hy151]; exact H) | exact H
                 have Ny151 := Aside0.mk hy151
                 clear hy151
                 have H' := Aside0.mk H
                 clear H
                 have p10 : 0 ≤ (x7_1 : Int) := of_decide_eq_true (by first | (with_reducible assumption) | assumption)
                 have q10 : x7_1 < (a0.size : Int) := of_decide_eq_true (by first | (with_reducible assumption) | assumption)
                 have hx10 := bt_at a0 x7_1
                 replace p10 := eq_true p10
                 replace q10 := eq_true q10
                 go_wp2_with (first | ((with_reducible refine gate_builtin (b := .append) (xs := #[.tmp 45, .tmp 47]) rfl ?_); at_builtin; refine Kd.R_append (Kd.int .u8) (w0 := w) w.heap.size rfl (.tmp 45) (.tmp 47) 42 5 (.int .u8 0) 1 rfl Tryd.underlying42 info5 rfl (by decide) (by omega) u6 x6_1 (bt a0 x7_1) [.int .u8 (bt a0 x7_1)] (fun _ => True) (fun _ => False) rfl rfl ?aP (fun _ hk => hk.elim) ?aF ?aO ?aB ?aS ?aL ?_; (case aP => exact rfl); (case aB => exact (by repeat (first | (with_reducible first | exact HB.out | apply below_alloc | apply pw_below_drewN | apply below_drew1) | exact HB.out))); (case aF => exact (fun _ _ => trivial)); (case aO => exact (qR HO_6.out)); (case aS => exact (below_size (by repeat (first | (with_reducible first | exact HB.out | apply below_alloc | apply pw_below_drewN | apply below_drew1) | exact HB.out)))); (case aL => have := LMc24.out; omega); intro v152 w25 ho hb hg hat; rw [← Ny151.out] at ho; have n0_ := Aside0.mk (hb); have n1_ := Aside0.mk (ho); clear HB; clear HO_6; have HB := n0_; have HO153 := n1_; clear n0_ n1_; clear ho hb hg hat))
                 go_roundg kj2
                 case measure => have := HK1.out; have := HJ2.out; omega
                 case rel => exact ⟨(y151), (wrap64 (x7_1 + 1)), (by first | rfl | (simp; done) | (simp [*]; done) | (simp [wrap64]; done)), H', ⟨by have := HK1.out; have := HJ2.out; omega⟩, ⟨by (with_reducible repeat (first | apply Kd.R_alloc | apply Kd.R_drewN | apply Kd.R_drew)); exact HO153.out⟩, ⟨by repeat (first | (with_reducible first | exact HB.out | apply below_alloc | apply pw_below_drewN | apply below_drew1) | exact HB.out)⟩⟩
               · rw [if_neg c24] at H
                 exact absurd H (by simp)
         · rw [if_neg c9] at H
           exact absurd H (by simp)
       · rw [if_neg c8] at H
         exact absurd H (by simp)
     · replace c7 := Bool.eq_false_iff.mpr c7
       subst c7
       have H1 : (if x7_1 ≥ (a0.size : Int) then (some ((⟨#[]⟩ : ByteArray), 0)) else ((partitaref18_Inside.f kj2 (strOfNums x6_1)).bind fun t145 => (if t145 = true then (some (strOfNums x6_1, wrap64 (x7_1 + 1))) else (some ((⟨#[]⟩ : ByteArray), 0))))) = some (r1, r2) := by rw [if_neg (show ¬ (false = true) by decide)] at H; exact H
       clear H
       have H := H1
       clear H1
       by_cases c26 : x7_1 ≥ (a0.size : Int)
       · rw [if_pos c26] at H
         have c26b0 : decide ((a0.size : Int) ≤ x7_1) = true := decide_eq_true c26
         clear c26
         simp only [Option.some.injEq, Prod.mk.injEq] at H
         obtain ⟨rfl, rfl⟩ := H
         go_wp2
         go_ret2
         exact ⟨by first | rfl | (simp [errW_none, errW_some] <;> rfl) | (simp [*, errW_none, errW_some] <;> rfl), by repeat (first | (with_reducible first | exact HB.out | apply below_alloc | apply pw_below_drewN | apply below_drew1) | exact HB.out)⟩
       · rw [if_neg c26] at H
         have c26b0 : decide ((a0.size : Int) ≤ x7_1) = false := decide_eq_false c26
         clear c26
         replace H := Option.bind_eq_some_iff.mp H
         obtain ⟨t145, A270, H⟩ := H
         replace H : (if t145 = true then (some (strOfNums x6_1, wrap64 (x7_1 + 1))) else (some ((⟨#[]⟩ : ByteArray), 0))) = some (r1, r2) := H
         have A27 := Aside0.mk A270
         clear A270
         by_cases c28 : t145 = true
         · subst c28
           have H1 : (some (strOfNums x6_1, wrap64 (x7_1 + 1))) = some (r1, r2) := by rw [if_pos rfl] at H; exact H
           clear H
           have H := H1
           clear H1
           simp only [Option.some.injEq, Prod.mk.injEq] at H
           obtain ⟨rfl, rfl⟩ := H
           have hcv29 := own_string (P := Tryd.prog) Tryd.underlying42 Tryd.underlying5 Tryd.underlying9 (Kd.own_of_R HO_6.out)
           go_wp2_with (first | (go_at_call 22; (with_reducible refine (partitaref18_Inside.calls kj2 (strOfNums x6_1) true _ A27.out).mono ?_); rintro e w' ⟨rfl, ⟨nd, rfl⟩⟩; have hcv30 := own_string (P := Tryd.prog) Tryd.underlying42 Tryd.underlying5 Tryd.underlying9 (Kd.own_of_R (Kd.R_drewN HO_6.out nd))))
           go_ret2
           exact ⟨by first | rfl | (simp [errW_none, errW_some] <;> rfl) | (simp [*, errW_none, errW_some] <;> rfl), by repeat (first | (with_reducible first | exact HB.out | apply below_alloc | apply pw_below_drewN | apply below_drew1) | exact HB.out)⟩
         · replace c28 := Bool.eq_false_iff.mpr c28
           subst c28
           have H1 : (some ((⟨#[]⟩ : ByteArray), 0)) = some (r1, r2) := by rw [if_neg (show ¬ (false = true) by decide)] at H; exact H
           clear H
           have H := H1
           clear H1
           simp only [Option.some.injEq, Prod.mk.injEq] at H
           obtain ⟨rfl, rfl⟩ := H
           have hcv31 := own_string (P := Tryd.prog) Tryd.underlying42 Tryd.underlying5 Tryd.underlying9 (Kd.own_of_R HO_6.out)
           go_wp2_with (first | (go_at_call 22; (with_reducible refine (partitaref18_Inside.calls kj2 (strOfNums x6_1) false _ A27.out).mono ?_); rintro e w' ⟨rfl, ⟨nd, rfl⟩⟩))
           go_ret2
           exact ⟨by first | rfl | (simp [errW_none, errW_some] <;> rfl) | (simp [*, errW_none, errW_some] <;> rfl), by repeat (first | (with_reducible first | exact HB.out | apply below_alloc | apply pw_below_drewN | apply below_drew1) | exact HB.out)⟩

/-! ### partitaref18_Letter: function 41 -/
def partitaref18_Letter.f (a0 : Int) : Option (Bool) := if a0 ≥ 65 then (if a0 ≤ 90 then (some true) else (if a0 ≥ 97 then (some (decide (a0 ≤ 122))) else (some false))) else (if a0 ≥ 97 then (some (decide (a0 ≤ 122))) else (some false))
set_option maxHeartbeats 8000000 in
set_option maxRecDepth 100000 in
theorem partitaref18_Letter.calls (a0 : Int) (r : Bool) (w : World) (h : partitaref18_Letter.f a0 = some r) :
 Calls Tryd.prog 41 #[.int .u8 a0] w fun e w' => e = .returned (.bool r) ∧ Drawn0 w w' := by
 have H : (if a0 ≥ 65 then (if a0 ≤ 90 then (some true) else (if a0 ≥ 97 then (some (decide (a0 ≤ 122))) else (some false))) else (if a0 ≥ 97 then (some (decide (a0 ≤ 122))) else (some false))) = some r := h
 clear h
 by_cases c2 : a0 ≥ 65
 · rw [if_pos c2] at H
   have c2b0 : decide (65 ≤ a0) = true := decide_eq_true c2
   clear c2
   by_cases c3 : a0 ≤ 90
   · rw [if_pos c3] at H
     have c3b0 : decide (a0 ≤ 90) = true := decide_eq_true c3
     clear c3
     obtain rfl := Option.some.inj H
     go_enter Tryd.func41, Tryd.ntmps41
     go_wp2
     go_ret
     exact ⟨by first | rfl | (simp; done) | (simp [*]; done), by repeat (first | exact Drawn0.refl _ | apply Drawn0.step)⟩
   · rw [if_neg c3] at H
     have c3b0 : decide (a0 ≤ 90) = false := decide_eq_false c3
     clear c3
     by_cases c4 : a0 ≥ 97
     · rw [if_pos c4] at H
       have c4b0 : decide (97 ≤ a0) = true := decide_eq_true c4
       clear c4
       obtain rfl := Option.some.inj H
       go_enter Tryd.func41, Tryd.ntmps41
       go_wp2
       go_ret
       exact ⟨by first | rfl | (simp; done) | (simp [*]; done), by repeat (first | exact Drawn0.refl _ | apply Drawn0.step)⟩
     · rw [if_neg c4] at H
       have c4b0 : decide (97 ≤ a0) = false := decide_eq_false c4
       clear c4
       obtain rfl := Option.some.inj H
       go_enter Tryd.func41, Tryd.ntmps41
       go_wp2
       go_ret
       exact ⟨by first | rfl | (simp; done) | (simp [*]; done), by repeat (first | exact Drawn0.refl _ | apply Drawn0.step)⟩
 · rw [if_neg c2] at H
   have c2b0 : decide (65 ≤ a0) = false := decide_eq_false c2
   clear c2
   by_cases c5 : a0 ≥ 97
   · rw [if_pos c5] at H
     have c5b0 : decide (97 ≤ a0) = true := decide_eq_true c5
     clear c5
     obtain rfl := Option.some.inj H
     go_enter Tryd.func41, Tryd.ntmps41
     go_wp2
     go_ret
     exact ⟨by first | rfl | (simp; done) | (simp [*]; done), by repeat (first | exact Drawn0.refl _ | apply Drawn0.step)⟩
   · rw [if_neg c5] at H
     have c5b0 : decide (97 ≤ a0) = false := decide_eq_false c5
     clear c5
     obtain rfl := Option.some.inj H
     go_enter Tryd.func41, Tryd.ntmps41
     go_wp2
     go_ret
     exact ⟨by first | rfl | (simp; done) | (simp [*]; done), by repeat (first | exact Drawn0.refl _ | apply Drawn0.step)⟩

/-! ### partitaref18_Digit: function 53 -/
def partitaref18_Digit.f (a0 : Int) : Option (Bool) := if a0 ≥ 48 then (some (decide (a0 ≤ 57))) else (some false)
set_option maxHeartbeats 8000000 in
set_option maxRecDepth 100000 in
theorem partitaref18_Digit.calls (a0 : Int) (r : Bool) (w : World) (h : partitaref18_Digit.f a0 = some r) :
 Calls Tryd.prog 53 #[.int .u8 a0] w fun e w' => e = .returned (.bool r) ∧ Drawn0 w w' := by
 have H : (if a0 ≥ 48 then (some (decide (a0 ≤ 57))) else (some false)) = some r := h
 clear h
 by_cases c2 : a0 ≥ 48
 · rw [if_pos c2] at H
   have c2b0 : decide (48 ≤ a0) = true := decide_eq_true c2
   clear c2
   obtain rfl := Option.some.inj H
   go_enter Tryd.func53, Tryd.ntmps53
   go_wp2
   go_ret
   exact ⟨by first | rfl | (simp; done) | (simp [*]; done), by repeat (first | exact Drawn0.refl _ | apply Drawn0.step)⟩
 · rw [if_neg c2] at H
   have c2b0 : decide (48 ≤ a0) = false := decide_eq_false c2
   clear c2
   obtain rfl := Option.some.inj H
   go_enter Tryd.func53, Tryd.ntmps53
   go_wp2
   go_ret
   exact ⟨by first | rfl | (simp; done) | (simp [*]; done), by repeat (first | exact Drawn0.refl _ | apply Drawn0.step)⟩

end Go.Proofs.YtllccnijipgncaaDoor.Q
