-- Written by a program of this session (myprint.py), function by function.
import Derived.Test.YtneaoicjbiebkaaDoorQ0
import Derived.Test.YtneaoicjbiebkaaDoorQ1
import Derived.Test.YtneaoicjbiebkaaDoorQ2
import Derived.Test.YtneaoicjbiebkaaDoorQ3
namespace Go.Proofs.YtneaoicjbiebkaaDoor.Q
open Go.RowKit Go.Proofs.YtneaoicjbiebkaaDoorW.PrintWords Go.Proofs.YtneaoicjbiebkaaDoorW.PrintLast Go.Proofs.YtneaoicjbiebkaaDoorW.PrintMore
attribute [local go_sem] max2_int min2_int max_two min_two max_three min_three max_four min_four   -- for this text's walks alone
set_option linter.unusedVariables false
set_option linter.unusedSimpArgs false

attribute [local go_sem high] eqA38
/-! ### partitaref25_Same: function 16 -/
def partitaref25_Same.l0 : Nat → List (S38) → List (S38) → Int → Option (Bool)
 | 0, _, _, _ => none
 | k + 1, x0, x1, x5 => if x5 < (x0.length : Int) then (if 0 ≤ x5 then (if x5 < (x1.length : Int) then (if (!(((rd_T38 x0 x5).f0) == ((rd_T38 x1 x5).f0)) || (!(((rd_T38 x0 x5).f1) == ((rd_T38 x1 x5).f1)) || (!(((rd_T38 x0 x5).f2) == ((rd_T38 x1 x5).f2))))) = true then (some false) else (partitaref25_Same.l0 k x0 x1 (wrap64 (x5 + 1)))) else (none)) else (none)) else (some true)
def partitaref25_Same.f (k : Nat) (l0 : List (S38)) (l1 : List (S38)) : Option (Bool) := if (l0.length : Int) = (l1.length : Int) then (partitaref25_Same.l0 k l0 l1 0) else (some false)
theorem partitaref25_Same.mono_l : ∀ k, (∀ y0 y1 y2, LeO (partitaref25_Same.l0 k y0 y1 y2) (partitaref25_Same.l0 (k + 1) y0 y1 y2))
 | 0 => fun _ _ _ r h => by simp [partitaref25_Same.l0] at h
 | k + 1 => by
  have ih0 := partitaref25_Same.mono_l k
  · intro y0 y1 y2
    unfold partitaref25_Same.l0
    repeat' first
    | (with_reducible exact ih0 _ _ _)
    | (with_reducible exact LeO.refl _)
    | (with_reducible exact LeO.none _)
    | (with_reducible refine LeO.ite ?_ ?_)
    | (with_reducible refine LeO.bind ?_ (fun _ => ?_))
    | exact ih0 _ _ _
    | exact LeO.none _
    | refine LeO.ite ?_ ?_
    | refine LeO.bind ?_ (fun _ => ?_)
theorem partitaref25_Same.mono : ∀ a0 a1 k, LeO (partitaref25_Same.f k a0 a1) (partitaref25_Same.f (k + 1) a0 a1) := by
 intro a0 a1 k
 have ih0 := partitaref25_Same.mono_l k
 unfold partitaref25_Same.f
 repeat' first
  | (with_reducible exact ih0 _ _ _)
  | (with_reducible exact LeO.refl _)
  | (with_reducible exact LeO.none _)
  | (with_reducible refine LeO.ite ?_ ?_)
  | (with_reducible refine LeO.bind ?_ (fun _ => ?_))
  | exact ih0 _ _ _
  | exact LeO.none _
  | refine LeO.ite ?_ ?_
  | refine LeO.bind ?_ (fun _ => ?_)
set_option maxHeartbeats 8000000 in
set_option maxRecDepth 100000 in
theorem partitaref25_Same.calls (k : Nat) (A0 : Option Addr) (c0 : Nat) (l0 : List (S38)) (A1 : Option Addr) (c1 : Nat) (l1 : List (S38)) (r : Bool) (w : World) (hr0 : Kd.C k38 w A0 l0.length l0) (hc0 : l0.length ≤ c0) (hr1 : Kd.C k38 w A1 l1.length l1) (hc1 : l1.length ≤ c1) (h : partitaref25_Same.f k l0 l1 = some r) :
 Calls Tryd.prog 16 #[.slice A0 l0.length c0, .slice A1 l1.length c1] w fun e w' => e = .returned (.bool r) ∧ Drawn0 w w' := by
 have hu38 := Tryd.underlying38
 have HR0 := Aside0.mk hr0
 have HC0 := Aside0.mk hc0
 clear hr0 hc0
 have HR1 := Aside0.mk hr1
 have HC1 := Aside0.mk hc1
 clear hr1 hc1
 have H : (if (l0.length : Int) = (l1.length : Int) then (partitaref25_Same.l0 k l0 l1 0) else (some false)) = some r := h
 clear h
 by_cases c3 : (l0.length : Int) = (l1.length : Int)
 · rw [if_pos c3] at H
   have c3b0 : ((l0.length : Int) == (l1.length : Int)) = true := beq_iff_eq.mpr c3
   have c3b1 : ((l0.length : Int) != (l1.length : Int)) = false := bne_eq_false_iff_eq.mpr c3
   have c3b2 : (l0.length == l1.length) = true := by first | simpa using c3 | (simp at c3 ⊢; omega)
   clear c3
   have H' := Aside0.mk H
   clear H
   go_enter Tryd.func16, Tryd.ntmps16
   go_wp2
   repeat (go_quiet (fail); try go_wp2)
   go_loopg [5] k (fun kq v5 w' => ∃ (x5_1 : Int), v5 = .int .i64 x5_1 ∧ Aside0 (partitaref25_Same.l0 kq l0 l1 x5_1 = some r) ∧ Aside0 (kq ≤ k) ∧ Drawn0 w w')
   case atStart => exact ⟨(0), (by first | rfl | (simp; done) | (simp [*]; done) | (simp [wrap64]; done)), H', ⟨Nat.le_refl _⟩, by repeat (first | exact Drawn0.refl _ | apply Drawn0.step)⟩
   case round =>
    clear H'
    try clear c1
    try clear p2
    try clear c3
    try clear c3b0
    try clear c3b1
    try clear c3b2
    obtain ⟨x5_1, rfl, HA, HK1, ⟨m1, rfl⟩⟩ := hrel
    cases gk with
    | zero => exact absurd HA.out (by simp [partitaref25_Same.l0])
    | succ k1 =>
     have H := HA.out
     clear HA
     simp only [partitaref25_Same.l0] at H
     by_cases c4 : x5_1 < (l0.length : Int)
     · rw [if_pos c4] at H
       have c4b0 : decide (x5_1 < (l0.length : Int)) = true := decide_eq_true c4
       clear c4
       by_cases c5 : 0 ≤ x5_1
       · rw [if_pos c5] at H
         have c5b0 : decide (0 ≤ x5_1) = true := decide_eq_true c5
         clear c5
         by_cases c6 : x5_1 < (l1.length : Int)
         · rw [if_pos c6] at H
           have c6b0 : decide (x5_1 < (l1.length : Int)) = true := decide_eq_true c6
           clear c6
           by_cases c7 : (!(((rd_T38 l0 x5_1).f0) == ((rd_T38 l1 x5_1).f0)) || (!(((rd_T38 l0 x5_1).f1) == ((rd_T38 l1 x5_1).f1)) || (!(((rd_T38 l0 x5_1).f2) == ((rd_T38 l1 x5_1).f2))))) = true
           · rw [if_pos c7] at H
             have c7b0 : (!(((rd_T38 l0 x5_1).f0) == ((rd_T38 l1 x5_1).f0)) || (!(((rd_T38 l0 x5_1).f1) == ((rd_T38 l1 x5_1).f1)) || (!(((rd_T38 l0 x5_1).f2) == ((rd_T38 l1 x5_1).f2))))) = true := c7
             clear c7
             obtain rfl := Option.some.inj H
             have p115 : 0 ≤ (x5_1 : Int) := of_decide_eq_true (by first | (with_reducible assumption) | assumption)
             have q115 : x5_1 < (l0.length : Int) := of_decide_eq_true (by first | (with_reducible assumption) | assumption)
             obtain ⟨ad115, e115, hx115_0, hx115_1, hx115_2⟩ := at_T38 HR0.out x5_1 p115 q115
             cases e115
             replace p115 := eq_true p115
             replace q115 := eq_true q115
             have p116 : 0 ≤ (x5_1 : Int) := of_decide_eq_true (by first | (with_reducible assumption) | assumption)
             have q116 : x5_1 < (l1.length : Int) := of_decide_eq_true (by first | (with_reducible assumption) | assumption)
             obtain ⟨ad116, e116, hx116_0, hx116_1, hx116_2⟩ := at_T38 HR1.out x5_1 p116 q116
             cases e116
             replace p116 := eq_true p116
             replace q116 := eq_true q116
             go_wp2
             repeat (go_quiet (fail); try go_wp2)
             go_ret
             exact ⟨by first | rfl | (simp; done) | (simp [*]; done), by repeat (first | exact Drawn0.refl _ | apply Drawn0.step)⟩
           · rw [if_neg c7] at H
             have c7b0 : (!(((rd_T38 l0 x5_1).f0) == ((rd_T38 l1 x5_1).f0)) || (!(((rd_T38 l0 x5_1).f1) == ((rd_T38 l1 x5_1).f1)) || (!(((rd_T38 l0 x5_1).f2) == ((rd_T38 l1 x5_1).f2))))) = false := by simpa using c7
             clear c7
             have H' := Aside0.mk H
             clear H
             have p115 : 0 ≤ (x5_1 : Int) := of_decide_eq_true (by first | (with_reducible assumption) | assumption)
             have q115 : x5_1 < (l0.length : Int) := of_decide_eq_true (by first | (with_reducible assumption) | assumption)
             obtain ⟨ad115, e115, hx115_0, hx115_1, hx115_2⟩ := at_T38 HR0.out x5_1 p115 q115
             cases e115
             replace p115 := eq_true p115
             replace q115 := eq_true q115
             have p116 : 0 ≤ (x5_1 : Int) := of_decide_eq_true (by first | (with_reducible assumption) | assumption)
             have q116 : x5_1 < (l1.length : Int) := of_decide_eq_true (by first | (with_reducible assumption) | assumption)
             obtain ⟨ad116, e116, hx116_0, hx116_1, hx116_2⟩ := at_T38 HR1.out x5_1 p116 q116
             cases e116
             replace p116 := eq_true p116
             replace q116 := eq_true q116
             go_wp2
             repeat (go_quiet (fail); try go_wp2)
             go_roundg k1
             case measure => have := HK1.out; omega
             case rel => exact ⟨(wrap64 (x5_1 + 1)), (by first | rfl | (simp; done) | (simp [*]; done) | (simp [wrap64]; done)), H', ⟨by have := HK1.out; omega⟩, by repeat (first | exact Drawn0.refl _ | apply Drawn0.step)⟩
         · rw [if_neg c6] at H
           exact absurd H (by simp)
       · rw [if_neg c5] at H
         exact absurd H (by simp)
     · rw [if_neg c4] at H
       have c4b0 : decide (x5_1 < (l0.length : Int)) = false := decide_eq_false c4
       clear c4
       obtain rfl := Option.some.inj H
       go_wp2
       repeat (go_quiet (fail); try go_wp2)
       go_ret
       exact ⟨by first | rfl | (simp; done) | (simp [*]; done), by repeat (first | exact Drawn0.refl _ | apply Drawn0.step)⟩
 · rw [if_neg c3] at H
   have c3b0 : ((l0.length : Int) == (l1.length : Int)) = false := beq_eq_false_iff_ne.mpr c3
   have c3b1 : ((l0.length : Int) != (l1.length : Int)) = true := bne_iff_ne.mpr c3
   have c3b2 : (l0.length == l1.length) = false := by first | simpa using c3 | (simp at c3 ⊢; omega)
   obtain rfl := Option.some.inj H
   go_enter Tryd.func16, Tryd.ntmps16
   go_wp2
   repeat (go_quiet (fail); try go_wp2)
   go_ret
   exact ⟨by first | rfl | (simp; done) | (simp [*]; done), by repeat (first | exact Drawn0.refl _ | apply Drawn0.step)⟩

/-! ### partitalaw25_shown: function 10 -/
def partitalaw25_shown.f (k : Nat)  : Option (Bool) := (systems_Break.f (([40, 40, 40] : List Int)) (([10, 10, 10] : List Int)) 100).bind fun bt123 => ((systems_Break.f (([40, 101] : List Int)) (([1, 1] : List Int)) 100).bind fun bt133 => ((systems_Break.f (([40] : List Int)) ([] : List Int) 100).bind fun bt140 => ((systems_Cost.f k 80 20 100).bind fun bt144 => ((systems_Cost.f k 101 20 100).bind fun bt146 => (if bt123.2 = 0 then ((partitaref25_Same.f k bt123.1 (([(⟨0, 2, 100⟩ : S38), (⟨2, 3, 0⟩ : S38)] : List (S38)))).bind fun t151 => (if t151 = true then (if bt133.2 = 250 then (if bt140.2 = 2 then (if bt144.1 = 100 then (if bt144.2 = true then (some (!bt146.2)) else none) else none) else none) else none) else none)) else none)))))
theorem partitalaw25_shown.mono : ∀ k, LeO (partitalaw25_shown.f k ) (partitalaw25_shown.f (k + 1) ) := by
 intro  k
 unfold partitalaw25_shown.f
 repeat' first
  | (with_reducible exact partitaref25_Same.mono _ _ _)
  | (with_reducible exact systems_Cost.mono _ _ _ _)
  | (with_reducible exact LeO.refl _)
  | (with_reducible exact LeO.none _)
  | (with_reducible refine LeO.ite ?_ ?_)
  | (with_reducible refine LeO.bind ?_ (fun _ => ?_))
  | exact partitaref25_Same.mono _ _ _
  | exact systems_Cost.mono _ _ _ _
  | exact LeO.none _
  | refine LeO.ite ?_ ?_
  | refine LeO.bind ?_ (fun _ => ?_)
set_option maxHeartbeats 8000000 in
set_option maxRecDepth 100000 in
theorem partitalaw25_shown.calls (k : Nat)  (r : Bool) (w : World) (h : partitalaw25_shown.f k  = some r) (SENTS : Aside0 (SentsE w) := by exact sents_step (by assumption) (by repeat (first | (with_reducible first | exact (by assumption : Aside0 (Below _ _ _)).out | apply below_alloc | apply pw_below_drewN | apply below_drew1)))) :
 Calls Tryd.prog 10 #[] w fun e w' => e = .returned (.bool r) ∧ Below w.heap.size w w' := by
 have hu38 := Tryd.underlying38
 have HB := Aside0.mk (Below.refl w.heap.size w)
 have H : ((systems_Break.f (([40, 40, 40] : List Int)) (([10, 10, 10] : List Int)) 100).bind fun bt123 => ((systems_Break.f (([40, 101] : List Int)) (([1, 1] : List Int)) 100).bind fun bt133 => ((systems_Break.f (([40] : List Int)) ([] : List Int) 100).bind fun bt140 => ((systems_Cost.f k 80 20 100).bind fun bt144 => ((systems_Cost.f k 101 20 100).bind fun bt146 => (if bt123.2 = 0 then ((partitaref25_Same.f k bt123.1 (([(⟨0, 2, 100⟩ : S38), (⟨2, 3, 0⟩ : S38)] : List (S38)))).bind fun t151 => (if t151 = true then (if bt133.2 = 250 then (if bt140.2 = 2 then (if bt144.1 = 100 then (if bt144.2 = true then (some (!bt146.2)) else none) else none) else none) else none) else none)) else none)))))) = some r := h
 clear h
 obtain ⟨y117, hy117⟩ : ∃ y_ : List Int, y_ = (([40, 40, 40] : List Int)) := ⟨_, rfl⟩
 replace H : ((systems_Break.f y117 (([10, 10, 10] : List Int)) 100).bind fun bt123 => ((systems_Break.f (([40, 101] : List Int)) (([1, 1] : List Int)) 100).bind fun bt133 => ((systems_Break.f (([40] : List Int)) ([] : List Int) 100).bind fun bt140 => ((systems_Cost.f k 80 20 100).bind fun bt144 => ((systems_Cost.f k 101 20 100).bind fun bt146 => (if bt123.2 = 0 then ((partitaref25_Same.f k bt123.1 (([(⟨0, 2, 100⟩ : S38), (⟨2, 3, 0⟩ : S38)] : List (S38)))).bind fun t151 => (if t151 = true then (if bt133.2 = 250 then (if bt140.2 = 2 then (if bt144.1 = 100 then (if bt144.2 = true then (some (!bt146.2)) else none) else none) else none) else none) else none)) else none)))))) = some r := by first | (rw [hy117]; with_reducible exact H) | (have H2_ := (Option.bind_some _ _).symm.trans H; rw [hy117]; with_reducible exact H2_) | (have H2_ := (Option.bind_some _ _).symm.trans H; with_reducible exact H2_) | with_reducible exact H | (rw [hy117]; exact H) | exact H
 have Ny117 := Aside0.mk hy117
 clear hy117
 obtain ⟨y120, hy120⟩ : ∃ y_ : List Int, y_ = (([10, 10, 10] : List Int)) := ⟨_, rfl⟩
 replace H : ((systems_Break.f y117 y120 100).bind fun bt123 => ((systems_Break.f (([40, 101] : List Int)) (([1, 1] : List Int)) 100).bind fun bt133 => ((systems_Break.f (([40] : List Int)) ([] : List Int) 100).bind fun bt140 => ((systems_Cost.f k 80 20 100).bind fun bt144 => ((systems_Cost.f k 101 20 100).bind fun bt146 => (if bt123.2 = 0 then ((partitaref25_Same.f k bt123.1 (([(⟨0, 2, 100⟩ : S38), (⟨2, 3, 0⟩ : S38)] : List (S38)))).bind fun t151 => (if t151 = true then (if bt133.2 = 250 then (if bt140.2 = 2 then (if bt144.1 = 100 then (if bt144.2 = true then (some (!bt146.2)) else none) else none) else none) else none) else none)) else none)))))) = some r := by first | (rw [hy120]; with_reducible exact H) | (have H2_ := (Option.bind_some _ _).symm.trans H; rw [hy120]; with_reducible exact H2_) | (have H2_ := (Option.bind_some _ _).symm.trans H; with_reducible exact H2_) | with_reducible exact H | (rw [hy120]; exact H) | exact H
 have Ny120 := Aside0.mk hy120
 clear hy120
 replace H := Option.bind_eq_some_iff.mp H
 obtain ⟨⟨t123, t124⟩, A10, H⟩ := H
 replace H : ((systems_Break.f (([40, 101] : List Int)) (([1, 1] : List Int)) 100).bind fun bt133 => ((systems_Break.f (([40] : List Int)) ([] : List Int) 100).bind fun bt140 => ((systems_Cost.f k 80 20 100).bind fun bt144 => ((systems_Cost.f k 101 20 100).bind fun bt146 => (if t124 = 0 then ((partitaref25_Same.f k t123 (([(⟨0, 2, 100⟩ : S38), (⟨2, 3, 0⟩ : S38)] : List (S38)))).bind fun t151 => (if t151 = true then (if bt133.2 = 250 then (if bt140.2 = 2 then (if bt144.1 = 100 then (if bt144.2 = true then (some (!bt146.2)) else none) else none) else none) else none) else none)) else none))))) = some r := H
 have A1 := Aside0.mk A10
 clear A10
 obtain ⟨y127, hy127⟩ : ∃ y_ : List Int, y_ = (([40, 101] : List Int)) := ⟨_, rfl⟩
 replace H : ((systems_Break.f y127 (([1, 1] : List Int)) 100).bind fun bt133 => ((systems_Break.f (([40] : List Int)) ([] : List Int) 100).bind fun bt140 => ((systems_Cost.f k 80 20 100).bind fun bt144 => ((systems_Cost.f k 101 20 100).bind fun bt146 => (if t124 = 0 then ((partitaref25_Same.f k t123 (([(⟨0, 2, 100⟩ : S38), (⟨2, 3, 0⟩ : S38)] : List (S38)))).bind fun t151 => (if t151 = true then (if bt133.2 = 250 then (if bt140.2 = 2 then (if bt144.1 = 100 then (if bt144.2 = true then (some (!bt146.2)) else none) else none) else none) else none) else none)) else none))))) = some r := by first | (rw [hy127]; with_reducible exact H) | (have H2_ := (Option.bind_some _ _).symm.trans H; rw [hy127]; with_reducible exact H2_) | (have H2_ := (Option.bind_some _ _).symm.trans H; with_reducible exact H2_) | with_reducible exact H | (rw [hy127]; exact H) | exact H
 have Ny127 := Aside0.mk hy127
 clear hy127
 obtain ⟨y130, hy130⟩ : ∃ y_ : List Int, y_ = (([1, 1] : List Int)) := ⟨_, rfl⟩
 replace H : ((systems_Break.f y127 y130 100).bind fun bt133 => ((systems_Break.f (([40] : List Int)) ([] : List Int) 100).bind fun bt140 => ((systems_Cost.f k 80 20 100).bind fun bt144 => ((systems_Cost.f k 101 20 100).bind fun bt146 => (if t124 = 0 then ((partitaref25_Same.f k t123 (([(⟨0, 2, 100⟩ : S38), (⟨2, 3, 0⟩ : S38)] : List (S38)))).bind fun t151 => (if t151 = true then (if bt133.2 = 250 then (if bt140.2 = 2 then (if bt144.1 = 100 then (if bt144.2 = true then (some (!bt146.2)) else none) else none) else none) else none) else none)) else none))))) = some r := by first | (rw [hy130]; with_reducible exact H) | (have H2_ := (Option.bind_some _ _).symm.trans H; rw [hy130]; with_reducible exact H2_) | (have H2_ := (Option.bind_some _ _).symm.trans H; with_reducible exact H2_) | with_reducible exact H | (rw [hy130]; exact H) | exact H
 have Ny130 := Aside0.mk hy130
 clear hy130
 replace H := Option.bind_eq_some_iff.mp H
 obtain ⟨⟨t133, t134⟩, A20, H⟩ := H
 replace H : ((systems_Break.f (([40] : List Int)) ([] : List Int) 100).bind fun bt140 => ((systems_Cost.f k 80 20 100).bind fun bt144 => ((systems_Cost.f k 101 20 100).bind fun bt146 => (if t124 = 0 then ((partitaref25_Same.f k t123 (([(⟨0, 2, 100⟩ : S38), (⟨2, 3, 0⟩ : S38)] : List (S38)))).bind fun t151 => (if t151 = true then (if t134 = 250 then (if bt140.2 = 2 then (if bt144.1 = 100 then (if bt144.2 = true then (some (!bt146.2)) else none) else none) else none) else none) else none)) else none)))) = some r := H
 have A2 := Aside0.mk A20
 clear A20
 obtain ⟨y137, hy137⟩ : ∃ y_ : List Int, y_ = (([40] : List Int)) := ⟨_, rfl⟩
 replace H : ((systems_Break.f y137 ([] : List Int) 100).bind fun bt140 => ((systems_Cost.f k 80 20 100).bind fun bt144 => ((systems_Cost.f k 101 20 100).bind fun bt146 => (if t124 = 0 then ((partitaref25_Same.f k t123 (([(⟨0, 2, 100⟩ : S38), (⟨2, 3, 0⟩ : S38)] : List (S38)))).bind fun t151 => (if t151 = true then (if t134 = 250 then (if bt140.2 = 2 then (if bt144.1 = 100 then (if bt144.2 = true then (some (!bt146.2)) else none) else none) else none) else none) else none)) else none)))) = some r := by first | (rw [hy137]; with_reducible exact H) | (have H2_ := (Option.bind_some _ _).symm.trans H; rw [hy137]; with_reducible exact H2_) | (have H2_ := (Option.bind_some _ _).symm.trans H; with_reducible exact H2_) | with_reducible exact H | (rw [hy137]; exact H) | exact H
 have Ny137 := Aside0.mk hy137
 clear hy137
 replace H := Option.bind_eq_some_iff.mp H
 obtain ⟨⟨t140, t141⟩, A30, H⟩ := H
 replace H : ((systems_Cost.f k 80 20 100).bind fun bt144 => ((systems_Cost.f k 101 20 100).bind fun bt146 => (if t124 = 0 then ((partitaref25_Same.f k t123 (([(⟨0, 2, 100⟩ : S38), (⟨2, 3, 0⟩ : S38)] : List (S38)))).bind fun t151 => (if t151 = true then (if t134 = 250 then (if t141 = 2 then (if bt144.1 = 100 then (if bt144.2 = true then (some (!bt146.2)) else none) else none) else none) else none) else none)) else none))) = some r := H
 have A3 := Aside0.mk A30
 clear A30
 replace H := Option.bind_eq_some_iff.mp H
 obtain ⟨⟨t144, t145⟩, A40, H⟩ := H
 replace H : ((systems_Cost.f k 101 20 100).bind fun bt146 => (if t124 = 0 then ((partitaref25_Same.f k t123 (([(⟨0, 2, 100⟩ : S38), (⟨2, 3, 0⟩ : S38)] : List (S38)))).bind fun t151 => (if t151 = true then (if t134 = 250 then (if t141 = 2 then (if t144 = 100 then (if t145 = true then (some (!bt146.2)) else none) else none) else none) else none) else none)) else none)) = some r := H
 have A4 := Aside0.mk A40
 clear A40
 replace H := Option.bind_eq_some_iff.mp H
 obtain ⟨⟨t146, t147⟩, A50, H⟩ := H
 replace H : (if t124 = 0 then ((partitaref25_Same.f k t123 (([(⟨0, 2, 100⟩ : S38), (⟨2, 3, 0⟩ : S38)] : List (S38)))).bind fun t151 => (if t151 = true then (if t134 = 250 then (if t141 = 2 then (if t144 = 100 then (if t145 = true then (some (!t147)) else none) else none) else none) else none) else none)) else none) = some r := H
 have A5 := Aside0.mk A50
 clear A50
 by_cases c6 : t124 = 0
 · rw [if_pos c6] at H
   have c6b0 : (t124 == 0) = true := beq_iff_eq.mpr c6
   have c6b1 : (t124 != 0) = false := bne_eq_false_iff_eq.mpr c6
   clear c6
   obtain ⟨y148, hy148⟩ : ∃ y_ : List (S38), y_ = (([(⟨0, 2, 100⟩ : S38), (⟨2, 3, 0⟩ : S38)] : List (S38))) := ⟨_, rfl⟩
   replace H : ((partitaref25_Same.f k t123 y148).bind fun t151 => (if t151 = true then (if t134 = 250 then (if t141 = 2 then (if t144 = 100 then (if t145 = true then (some (!t147)) else none) else none) else none) else none) else none)) = some r := by first | (rw [hy148]; with_reducible exact H) | (have H2_ := (Option.bind_some _ _).symm.trans H; rw [hy148]; with_reducible exact H2_) | (have H2_ := (Option.bind_some _ _).symm.trans H; with_reducible exact H2_) | with_reducible exact H | (rw [hy148]; exact H) | exact H
   have Ny148 := Aside0.mk hy148
   clear hy148
   replace H := Option.bind_eq_some_iff.mp H
   obtain ⟨t151, A70, H⟩ := H
   replace H : (if t151 = true then (if t134 = 250 then (if t141 = 2 then (if t144 = 100 then (if t145 = true then (some (!t147)) else none) else none) else none) else none) else none) = some r := H
   have A7 := Aside0.mk A70
   clear A70
   by_cases c8 : t151 = true
   · subst c8
     have H1 : (if t134 = 250 then (if t141 = 2 then (if t144 = 100 then (if t145 = true then (some (!t147)) else none) else none) else none) else none) = some r := by rw [if_pos rfl] at H; exact H
     clear H
     have H := H1
     clear H1
     by_cases c9 : t134 = 250
     · rw [if_pos c9] at H
       have c9b0 : (t134 == 250) = true := beq_iff_eq.mpr c9
       have c9b1 : (t134 != 250) = false := bne_eq_false_iff_eq.mpr c9
       clear c9
       by_cases c10 : t141 = 2
       · rw [if_pos c10] at H
         have c10b0 : (t141 == 2) = true := beq_iff_eq.mpr c10
         have c10b1 : (t141 != 2) = false := bne_eq_false_iff_eq.mpr c10
         clear c10
         by_cases c11 : t144 = 100
         · rw [if_pos c11] at H
           have c11b0 : (t144 == 100) = true := beq_iff_eq.mpr c11
           have c11b1 : (t144 != 100) = false := bne_eq_false_iff_eq.mpr c11
           clear c11
           by_cases c12 : t145 = true
           · subst c12
             have H1 : (some (!t147)) = some r := by rw [if_pos rfl] at H; exact H
             clear H
             have H := H1
             clear H1
             obtain rfl := Option.some.inj H
             go_enter Tryd.func10, Tryd.ntmps10
             go_wp2_with (first | ((with_reducible refine gate_dst (N := 12) rfl ?_); (try (refine gate_guard (by rfl) ?_; dsimp only)); refine Kd.R_lit (Kd.int .i64) _ 3 ?hg (N := 12) ?hd (xs := ([40, 40, 40] : List Int)) (inner := [.int .i64 40, .int .i64 40, .int .i64 40]) (ok := fun _ => True) (okp := fun _ => True) ?hr ?hp (fun _ hk => hk) trivial (Below.refl _ _) (Nat.le_refl _) (by simp) ?_; (case hd => rfl); (case hg => rfl); (case hr => first | (go_simp; done) | (go_simp; rfl)); (case hp => exact (Reps.one (show Kd.M (Kd.int .i64) _ _ _ 40 [.int .i64 40] from rfl) (Reps.one (show Kd.M (Kd.int .i64) _ _ _ 40 [.int .i64 40] from rfl) (Reps.one (show Kd.M (Kd.int .i64) _ _ _ 40 [.int .i64 40] from rfl) (Reps.none _ _))))); intro v118 w13 ho14 hb hg_ hnew_; clear hg_ hnew_; (first | rw [← Ny117.out] at ho14 | (simp only [Int.reduceToNat] at ho14; rw [← Ny117.out] at ho14)); have n0_ := Aside0.mk (Kd.R_lower ho14 (below_size (by repeat (first | (with_reducible first | exact HB.out | apply below_alloc | apply pw_below_drewN | apply below_drew1) | exact HB.out)))); have n1_ := Aside0.mk (below_step (by repeat (first | (with_reducible first | exact HB.out | apply below_alloc | apply pw_below_drewN | apply below_drew1) | exact HB.out)) hb); clear HB; have HO119 := n0_; have HB := n1_; clear n0_ n1_; clear hb ho14) | ((with_reducible refine gate_dst (N := 13) rfl ?_); (try (refine gate_guard (by rfl) ?_; dsimp only)); refine Kd.R_lit (Kd.int .i64) _ 3 ?hg (N := 13) ?hd (xs := ([10, 10, 10] : List Int)) (inner := [.int .i64 10, .int .i64 10, .int .i64 10]) (ok := fun _ => True) (okp := fun _ => True) ?hr ?hp (fun _ hk => hk) trivial (Below.refl _ _) (Nat.le_refl _) (by simp) ?_; (case hd => rfl); (case hg => rfl); (case hr => first | (go_simp; done) | (go_simp; rfl)); (case hp => exact (Reps.one (show Kd.M (Kd.int .i64) _ _ _ 10 [.int .i64 10] from rfl) (Reps.one (show Kd.M (Kd.int .i64) _ _ _ 10 [.int .i64 10] from rfl) (Reps.one (show Kd.M (Kd.int .i64) _ _ _ 10 [.int .i64 10] from rfl) (Reps.none _ _))))); intro v121 w15 ho16 hb hg_ hnew_; clear hg_ hnew_; (first | rw [← Ny120.out] at ho16 | (simp only [Int.reduceToNat] at ho16; rw [← Ny120.out] at ho16)); have n0_ := Aside0.mk (Kd.R_elder' (qR HO119.out) (Kd.R_base ho16) hb); have n1_ := Aside0.mk (Kd.R_lower (Kd.R_new' ho16 (Kd.R_lt (qR HO119.out))) (below_size (by repeat (first | (with_reducible first | exact HB.out | apply below_alloc | apply pw_below_drewN | apply below_drew1) | exact HB.out)))); have n2_ := Aside0.mk (below_step (by repeat (first | (with_reducible first | exact HB.out | apply below_alloc | apply pw_below_drewN | apply below_drew1) | exact HB.out)) hb); clear HO119; clear HB; have HO119 := n0_; have HO122 := n1_; have HB := n2_; clear n0_ n1_ n2_; clear hb ho16; obtain ⟨Ao17, co17, eo17⟩ := Kd.R_slice HO119.out; subst eo17; obtain ⟨Ao18, co18, eo18⟩ := Kd.R_slice HO122.out; subst eo18) | ((with_reducible refine gate_callee (f := 14) rfl ?_); refine goesL_ (some 14) rfl rfl Tryd.func14 (by kernel_rfl) rfl #[.slice Ao17 y117.length co17, .slice Ao18 y120.length co18, .int .i64 100] rfl (by (try simp only [List.map_toArray, List.map_cons, List.map_nil]); first | done | rfl | (simp only [List.length_drop, List.length_take]; rfl)) ?_; (with_reducible refine (systems_Break.calls _ _ y117 _ _ y120 100 t123 t124 _ ?side1 ?side2 ?side3 ?side4 A1.out).mono ?_); (case side1 => repeat (first | exact (Kd.R_reads' HO119.out).2.2 | (with_reducible refine Kd.C_alloc ?_ _) | (with_reducible refine Kd.C_drewN ?_ _) | (with_reducible refine Kd.C_drew ?_))); (case side2 => exact (Kd.R_reads' HO119.out).2.1); (case side3 => repeat (first | exact (Kd.R_reads' HO122.out).2.2 | (with_reducible refine Kd.C_alloc ?_ _) | (with_reducible refine Kd.C_drewN ?_ _) | (with_reducible refine Kd.C_drew ?_))); (case side4 => exact (Kd.R_reads' HO122.out).2.1); rintro e w19 ⟨v125, rfl, ho0, hb⟩; refine ⟨_, rfl, ?_⟩; have n0_ := Aside0.mk (Kd.R_below (qR HO119.out) hb); have n1_ := Aside0.mk (Kd.R_below (qR HO122.out) hb); have n2_ := Aside0.mk (Kd.R_lower ho0 (below_size (by repeat (first | (with_reducible first | exact HB.out | apply below_alloc | apply pw_below_drewN | apply below_drew1) | exact HB.out)))); have n3_ := Aside0.mk (below_step (by repeat (first | (with_reducible first | exact HB.out | apply below_alloc | apply pw_below_drewN | apply below_drew1) | exact HB.out)) hb); clear HO119; clear HO122; clear HB; have HO119 := n0_; have HO122 := n1_; have HO126 := n2_; have HB := n3_; clear n0_ n1_ n2_ n3_; (try clear hb); (try clear hb2); (try clear hk); (try clear hi); (try clear ho0)) | ((with_reducible refine gate_dst (N := 18) rfl ?_); (try (refine gate_guard (by rfl) ?_; dsimp only)); refine Kd.R_lit (Kd.int .i64) _ 3 ?hg (N := 18) ?hd (xs := ([40, 101] : List Int)) (inner := [.int .i64 40, .int .i64 101]) (ok := fun _ => True) (okp := fun _ => True) ?hr ?hp (fun _ hk => hk) trivial (Below.refl _ _) (Nat.le_refl _) (by simp) ?_; (case hd => rfl); (case hg => rfl); (case hr => first | (go_simp; done) | (go_simp; rfl)); (case hp => exact (Reps.one (show Kd.M (Kd.int .i64) _ _ _ 40 [.int .i64 40] from rfl) (Reps.one (show Kd.M (Kd.int .i64) _ _ _ 101 [.int .i64 101] from rfl) (Reps.none _ _)))); intro v128 w20 ho21 hb hg_ hnew_; clear hg_ hnew_; (first | rw [← Ny127.out] at ho21 | (simp only [Int.reduceToNat] at ho21; rw [← Ny127.out] at ho21)); have n0_ := Aside0.mk (Kd.R_elder' (qR HO119.out) (Kd.R_base ho21) hb); have n1_ := Aside0.mk (Kd.R_elder' (qR HO122.out) (Kd.R_base ho21) hb); have n2_ := Aside0.mk (Kd.R_below (qR HO126.out) hb); have n3_ := Aside0.mk (Kd.R_lower (Kd.R_new' (Kd.R_new' ho21 (Kd.R_lt (qR HO119.out))) (Kd.R_lt (qR HO122.out))) (below_size (by repeat (first | (with_reducible first | exact HB.out | apply below_alloc | apply pw_below_drewN | apply below_drew1) | exact HB.out)))); have n4_ := Aside0.mk (below_step (by repeat (first | (with_reducible first | exact HB.out | apply below_alloc | apply pw_below_drewN | apply below_drew1) | exact HB.out)) hb); clear HO119; clear HO122; clear HO126; clear HB; have HO119 := n0_; have HO122 := n1_; have HO126 := n2_; have HO129 := n3_; have HB := n4_; clear n0_ n1_ n2_ n3_ n4_; clear hb ho21) | ((with_reducible refine gate_dst (N := 19) rfl ?_); (try (refine gate_guard (by rfl) ?_; dsimp only)); refine Kd.R_lit (Kd.int .i64) _ 3 ?hg (N := 19) ?hd (xs := ([1, 1] : List Int)) (inner := [.int .i64 1, .int .i64 1]) (ok := fun _ => True) (okp := fun _ => True) ?hr ?hp (fun _ hk => hk) trivial (Below.refl _ _) (Nat.le_refl _) (by simp) ?_; (case hd => rfl); (case hg => rfl); (case hr => first | (go_simp; done) | (go_simp; rfl)); (case hp => exact (Reps.one (show Kd.M (Kd.int .i64) _ _ _ 1 [.int .i64 1] from rfl) (Reps.one (show Kd.M (Kd.int .i64) _ _ _ 1 [.int .i64 1] from rfl) (Reps.none _ _)))); intro v131 w22 ho23 hb hg_ hnew_; clear hg_ hnew_; (first | rw [← Ny130.out] at ho23 | (simp only [Int.reduceToNat] at ho23; rw [← Ny130.out] at ho23)); have n0_ := Aside0.mk (Kd.R_elder' (qR HO119.out) (Kd.R_base ho23) hb); have n1_ := Aside0.mk (Kd.R_elder' (qR HO122.out) (Kd.R_base ho23) hb); have n2_ := Aside0.mk (Kd.R_below (qR HO126.out) hb); have n3_ := Aside0.mk (Kd.R_elder' (qR HO129.out) (Kd.R_base ho23) hb); have n4_ := Aside0.mk (Kd.R_lower (Kd.R_new' (Kd.R_new' (Kd.R_new' ho23 (Kd.R_lt (qR HO119.out))) (Kd.R_lt (qR HO122.out))) (Kd.R_lt (qR HO129.out))) (below_size (by repeat (first | (with_reducible first | exact HB.out | apply below_alloc | apply pw_below_drewN | apply below_drew1) | exact HB.out)))); have n5_ := Aside0.mk (below_step (by repeat (first | (with_reducible first | exact HB.out | apply below_alloc | apply pw_below_drewN | apply below_drew1) | exact HB.out)) hb); clear HO119; clear HO122; clear HO126; clear HO129; clear HB; have HO119 := n0_; have HO122 := n1_; have HO126 := n2_; have HO129 := n3_; have HO132 := n4_; have HB := n5_; clear n0_ n1_ n2_ n3_ n4_ n5_; clear hb ho23; obtain ⟨Ao24, co24, eo24⟩ := Kd.R_slice HO129.out; subst eo24; obtain ⟨Ao25, co25, eo25⟩ := Kd.R_slice HO132.out; subst eo25) | ((with_reducible refine gate_callee (f := 14) rfl ?_); refine goesL_ (some 20) rfl rfl Tryd.func14 (by kernel_rfl) rfl #[.slice Ao24 y127.length co24, .slice Ao25 y130.length co25, .int .i64 100] rfl (by (try simp only [List.map_toArray, List.map_cons, List.map_nil]); first | done | rfl | (simp only [List.length_drop, List.length_take]; rfl)) ?_; (with_reducible refine (systems_Break.calls _ _ y127 _ _ y130 100 t133 t134 _ ?side1 ?side2 ?side3 ?side4 A2.out).mono ?_); (case side1 => repeat (first | exact (Kd.R_reads' HO129.out).2.2 | (with_reducible refine Kd.C_alloc ?_ _) | (with_reducible refine Kd.C_drewN ?_ _) | (with_reducible refine Kd.C_drew ?_))); (case side2 => exact (Kd.R_reads' HO129.out).2.1); (case side3 => repeat (first | exact (Kd.R_reads' HO132.out).2.2 | (with_reducible refine Kd.C_alloc ?_ _) | (with_reducible refine Kd.C_drewN ?_ _) | (with_reducible refine Kd.C_drew ?_))); (case side4 => exact (Kd.R_reads' HO132.out).2.1); rintro e w26 ⟨v135, rfl, ho0, hb⟩; refine ⟨_, rfl, ?_⟩; have n0_ := Aside0.mk (Kd.R_below (qR HO119.out) hb); have n1_ := Aside0.mk (Kd.R_below (qR HO122.out) hb); have n2_ := Aside0.mk (Kd.R_elder' (qR HO126.out) (Kd.R_base ho0) hb); have n3_ := Aside0.mk (Kd.R_below (qR HO129.out) hb); have n4_ := Aside0.mk (Kd.R_below (qR HO132.out) hb); have n5_ := Aside0.mk (Kd.R_lower (Kd.R_new' ho0 (Kd.R_lt (qR HO126.out))) (below_size (by repeat (first | (with_reducible first | exact HB.out | apply below_alloc | apply pw_below_drewN | apply below_drew1) | exact HB.out)))); have n6_ := Aside0.mk (below_step (by repeat (first | (with_reducible first | exact HB.out | apply below_alloc | apply pw_below_drewN | apply below_drew1) | exact HB.out)) hb); clear HO119; clear HO122; clear HO126; clear HO129; clear HO132; clear HB; have HO119 := n0_; have HO122 := n1_; have HO126 := n2_; have HO129 := n3_; have HO132 := n4_; have HO136 := n5_; have HB := n6_; clear n0_ n1_ n2_ n3_ n4_ n5_ n6_; (try clear hb); (try clear hb2); (try clear hk); (try clear hi); (try clear ho0)) | ((with_reducible refine gate_dst (N := 24) rfl ?_); (try (refine gate_guard (by rfl) ?_; dsimp only)); refine Kd.R_lit (Kd.int .i64) _ 3 ?hg (N := 24) ?hd (xs := ([40] : List Int)) (inner := [.int .i64 40]) (ok := fun _ => True) (okp := fun _ => True) ?hr ?hp (fun _ hk => hk) trivial (Below.refl _ _) (Nat.le_refl _) (by simp) ?_; (case hd => rfl); (case hg => rfl); (case hr => first | (go_simp; done) | (go_simp; rfl)); (case hp => exact (Reps.one (show Kd.M (Kd.int .i64) _ _ _ 40 [.int .i64 40] from rfl) (Reps.none _ _))); intro v138 w27 ho28 hb hg_ hnew_; clear hg_ hnew_; (first | rw [← Ny137.out] at ho28 | (simp only [Int.reduceToNat] at ho28; rw [← Ny137.out] at ho28)); have n0_ := Aside0.mk (Kd.R_elder' (qR HO119.out) (Kd.R_base ho28) hb); have n1_ := Aside0.mk (Kd.R_elder' (qR HO122.out) (Kd.R_base ho28) hb); have n2_ := Aside0.mk (Kd.R_below (qR HO126.out) hb); have n3_ := Aside0.mk (Kd.R_elder' (qR HO129.out) (Kd.R_base ho28) hb); have n4_ := Aside0.mk (Kd.R_elder' (qR HO132.out) (Kd.R_base ho28) hb); have n5_ := Aside0.mk (Kd.R_below (qR HO136.out) hb); have n6_ := Aside0.mk (Kd.R_lower (Kd.R_new' (Kd.R_new' (Kd.R_new' (Kd.R_new' ho28 (Kd.R_lt (qR HO119.out))) (Kd.R_lt (qR HO122.out))) (Kd.R_lt (qR HO129.out))) (Kd.R_lt (qR HO132.out))) (below_size (by repeat (first | (with_reducible first | exact HB.out | apply below_alloc | apply pw_below_drewN | apply below_drew1) | exact HB.out)))); have n7_ := Aside0.mk (below_step (by repeat (first | (with_reducible first | exact HB.out | apply below_alloc | apply pw_below_drewN | apply below_drew1) | exact HB.out)) hb); clear HO119; clear HO122; clear HO126; clear HO129; clear HO132; clear HO136; clear HB; have HO119 := n0_; have HO122 := n1_; have HO126 := n2_; have HO129 := n3_; have HO132 := n4_; have HO136 := n5_; have HO139 := n6_; have HB := n7_; clear n0_ n1_ n2_ n3_ n4_ n5_ n6_ n7_; clear hb ho28; obtain ⟨Ao29, co29, eo29⟩ := Kd.R_slice HO139.out; subst eo29) | ((with_reducible refine gate_callee (f := 14) rfl ?_); refine goesL_ (some 25) rfl rfl Tryd.func14 (by kernel_rfl) rfl #[.slice Ao29 y137.length co29, .slice none 0 0, .int .i64 100] rfl (by (try simp only [List.map_toArray, List.map_cons, List.map_nil]); first | done | rfl | (simp only [List.length_drop, List.length_take]; rfl)) ?_; (refine (systems_Break.calls _ _ y137 _ _ ([] : List Int) 100 t140 t141 _ ?side1 ?side2 ?side3 ?side4 A3.out).mono ?_); (case side1 => repeat (first | exact (Kd.R_reads' HO139.out).2.2 | (with_reducible refine Kd.C_alloc ?_ _) | (with_reducible refine Kd.C_drewN ?_ _) | (with_reducible refine Kd.C_drew ?_))); (case side2 => exact (Kd.R_reads' HO139.out).2.1); (case side3 => exact Kd.C_nil _ _); (case side4 => exact Nat.le_refl _); rintro e w30 ⟨v142, rfl, ho0, hb⟩; refine ⟨_, rfl, ?_⟩; have n0_ := Aside0.mk (Kd.R_below (qR HO119.out) hb); have n1_ := Aside0.mk (Kd.R_below (qR HO122.out) hb); have n2_ := Aside0.mk (Kd.R_elder' (qR HO126.out) (Kd.R_base ho0) hb); have n3_ := Aside0.mk (Kd.R_below (qR HO129.out) hb); have n4_ := Aside0.mk (Kd.R_below (qR HO132.out) hb); have n5_ := Aside0.mk (Kd.R_elder' (qR HO136.out) (Kd.R_base ho0) hb); have n6_ := Aside0.mk (Kd.R_below (qR HO139.out) hb); have n7_ := Aside0.mk (Kd.R_lower (Kd.R_new' (Kd.R_new' ho0 (Kd.R_lt (qR HO126.out))) (Kd.R_lt (qR HO136.out))) (below_size (by repeat (first | (with_reducible first | exact HB.out | apply below_alloc | apply pw_below_drewN | apply below_drew1) | exact HB.out)))); have n8_ := Aside0.mk (below_step (by repeat (first | (with_reducible first | exact HB.out | apply below_alloc | apply pw_below_drewN | apply below_drew1) | exact HB.out)) hb); clear HO119; clear HO122; clear HO126; clear HO129; clear HO132; clear HO136; clear HO139; clear HB; have HO119 := n0_; have HO122 := n1_; have HO126 := n2_; have HO129 := n3_; have HO132 := n4_; have HO136 := n5_; have HO139 := n6_; have HO143 := n7_; have HB := n8_; clear n0_ n1_ n2_ n3_ n4_ n5_ n6_ n7_ n8_; (try clear hb); (try clear hb2); (try clear hk); (try clear hi); (try clear ho0)) | ((with_reducible refine gate_callee (f := 12) rfl ?_); refine goesL_ (some 29) rfl rfl Tryd.func12 (by kernel_rfl) rfl #[.int .i64 80, .int .i64 20, .int .i64 100] rfl (by (try simp only [List.map_toArray, List.map_cons, List.map_nil]); first | done | rfl | (simp only [List.length_drop, List.length_take]; rfl)) ?_; (with_reducible refine (systems_Cost.calls k 80 20 100 t144 true _ A4.out).mono ?_); rintro e w31 ⟨rfl, hb⟩; refine ⟨_, rfl, ?_⟩; have n0_ := Aside0.mk (Kd.R_below (qR HO119.out) hb); have n1_ := Aside0.mk (Kd.R_below (qR HO122.out) hb); have n2_ := Aside0.mk (Kd.R_below (qR HO126.out) hb); have n3_ := Aside0.mk (Kd.R_below (qR HO129.out) hb); have n4_ := Aside0.mk (Kd.R_below (qR HO132.out) hb); have n5_ := Aside0.mk (Kd.R_below (qR HO136.out) hb); have n6_ := Aside0.mk (Kd.R_below (qR HO139.out) hb); have n7_ := Aside0.mk (Kd.R_below (qR HO143.out) hb); have n8_ := Aside0.mk (below_step (by repeat (first | (with_reducible first | exact HB.out | apply below_alloc | apply pw_below_drewN | apply below_drew1) | exact HB.out)) hb); clear HO119; clear HO122; clear HO126; clear HO129; clear HO132; clear HO136; clear HO139; clear HO143; clear HB; have HO119 := n0_; have HO122 := n1_; have HO126 := n2_; have HO129 := n3_; have HO132 := n4_; have HO136 := n5_; have HO139 := n6_; have HO143 := n7_; have HB := n8_; clear n0_ n1_ n2_ n3_ n4_ n5_ n6_ n7_ n8_; (try clear hb); (try clear hb2); (try clear hk); (try clear hi)) | ((with_reducible refine gate_callee (f := 12) rfl ?_); refine goesL_ (some 33) rfl rfl Tryd.func12 (by kernel_rfl) rfl #[.int .i64 101, .int .i64 20, .int .i64 100] rfl (by (try simp only [List.map_toArray, List.map_cons, List.map_nil]); first | done | rfl | (simp only [List.length_drop, List.length_take]; rfl)) ?_; (with_reducible refine (systems_Cost.calls k 101 20 100 t146 t147 _ A5.out).mono ?_); rintro e w32 ⟨rfl, hb⟩; refine ⟨_, rfl, ?_⟩; have n0_ := Aside0.mk (Kd.R_below (qR HO119.out) hb); have n1_ := Aside0.mk (Kd.R_below (qR HO122.out) hb); have n2_ := Aside0.mk (Kd.R_below (qR HO126.out) hb); have n3_ := Aside0.mk (Kd.R_below (qR HO129.out) hb); have n4_ := Aside0.mk (Kd.R_below (qR HO132.out) hb); have n5_ := Aside0.mk (Kd.R_below (qR HO136.out) hb); have n6_ := Aside0.mk (Kd.R_below (qR HO139.out) hb); have n7_ := Aside0.mk (Kd.R_below (qR HO143.out) hb); have n8_ := Aside0.mk (below_step (by repeat (first | (with_reducible first | exact HB.out | apply below_alloc | apply pw_below_drewN | apply below_drew1) | exact HB.out)) hb); clear HO119; clear HO122; clear HO126; clear HO129; clear HO132; clear HO136; clear HO139; clear HO143; clear HB; have HO119 := n0_; have HO122 := n1_; have HO126 := n2_; have HO129 := n3_; have HO132 := n4_; have HO136 := n5_; have HO139 := n6_; have HO143 := n7_; have HB := n8_; clear n0_ n1_ n2_ n3_ n4_ n5_ n6_ n7_ n8_; (try clear hb); (try clear hb2); (try clear hk); (try clear hi)) | ((with_reducible refine gate_dst (N := 42) rfl ?_); (try (refine gate_guard (by rfl) ?_; dsimp only)); refine Kd.R_lit k38 _ 38 ?hg (N := 42) ?hd (xs := ([(⟨0, 2, 100⟩ : S38), (⟨2, 3, 0⟩ : S38)] : List (S38))) (inner := [.int .i64 0, .int .i64 2, .int .i64 100, .int .i64 2, .int .i64 3, .int .i64 0]) (ok := fun _ => True) (okp := fun _ => True) ?hr ?hp (fun _ hk => hk) trivial (Below.refl _ _) (Nat.le_refl _) (by simp) ?_; (case hd => rfl); (case hg => rfl); (case hr => first | (go_simp; done) | (go_simp; rfl)); (case hp => exact (Reps.c3 (show Kd.M k38 _ _ _ (⟨0, 2, 100⟩ : S38) [.int .i64 0, .int .i64 2, .int .i64 100] from (k38_mkM _ _ _ (⟨0, 2, 100⟩ : S38) )) (Reps.c3 (show Kd.M k38 _ _ _ (⟨2, 3, 0⟩ : S38) [.int .i64 2, .int .i64 3, .int .i64 0] from (k38_mkM _ _ _ (⟨2, 3, 0⟩ : S38) )) (Reps.none _ _)))); intro v149 w33 ho34 hb hg_ hnew_; clear hg_ hnew_; (first | rw [← Ny148.out] at ho34 | (simp only [Int.reduceToNat] at ho34; rw [← Ny148.out] at ho34)); have n0_ := Aside0.mk (Kd.R_below (qR HO119.out) hb); have n1_ := Aside0.mk (Kd.R_below (qR HO122.out) hb); have n2_ := Aside0.mk (Kd.R_elder' (qR HO126.out) (Kd.R_base ho34) hb); have n3_ := Aside0.mk (Kd.R_below (qR HO129.out) hb); have n4_ := Aside0.mk (Kd.R_below (qR HO132.out) hb); have n5_ := Aside0.mk (Kd.R_elder' (qR HO136.out) (Kd.R_base ho34) hb); have n6_ := Aside0.mk (Kd.R_below (qR HO139.out) hb); have n7_ := Aside0.mk (Kd.R_elder' (qR HO143.out) (Kd.R_base ho34) hb); have n8_ := Aside0.mk (Kd.R_lower (Kd.R_new' (Kd.R_new' (Kd.R_new' ho34 (Kd.R_lt (qR HO126.out))) (Kd.R_lt (qR HO136.out))) (Kd.R_lt (qR HO143.out))) (below_size (by repeat (first | (with_reducible first | exact HB.out | apply below_alloc | apply pw_below_drewN | apply below_drew1) | exact HB.out)))); have n9_ := Aside0.mk (below_step (by repeat (first | (with_reducible first | exact HB.out | apply below_alloc | apply pw_below_drewN | apply below_drew1) | exact HB.out)) hb); clear HO119; clear HO122; clear HO126; clear HO129; clear HO132; clear HO136; clear HO139; clear HO143; clear HB; have HO119 := n0_; have HO122 := n1_; have HO126 := n2_; have HO129 := n3_; have HO132 := n4_; have HO136 := n5_; have HO139 := n6_; have HO143 := n7_; have HO150 := n8_; have HB := n9_; clear n0_ n1_ n2_ n3_ n4_ n5_ n6_ n7_ n8_ n9_; clear hb ho34; obtain ⟨Ao35, co35, eo35⟩ := Kd.R_slice HO126.out; subst eo35; obtain ⟨Ao36, co36, eo36⟩ := Kd.R_slice HO150.out; subst eo36) | (go_at_call 16; (with_reducible refine (partitaref25_Same.calls k _ _ t123 _ _ y148 true _ ?side1 ?side2 ?side3 ?side4 A7.out).mono ?_); (case side1 => repeat (first | exact (Kd.R_reads' HO126.out).2.2 | (with_reducible refine Kd.C_alloc ?_ _) | (with_reducible refine Kd.C_drewN ?_ _) | (with_reducible refine Kd.C_drew ?_))); (case side2 => exact (Kd.R_reads' HO126.out).2.1); (case side3 => repeat (first | exact (Kd.R_reads' HO150.out).2.2 | (with_reducible refine Kd.C_alloc ?_ _) | (with_reducible refine Kd.C_drewN ?_ _) | (with_reducible refine Kd.C_drew ?_))); (case side4 => exact (Kd.R_reads' HO150.out).2.1); rintro e w' ⟨rfl, ⟨nd, rfl⟩⟩))
             go_ret
             exact ⟨by first | rfl | (simp [errW_none, errW_some] <;> rfl) | (simp [*, errW_none, errW_some] <;> rfl), by repeat (first | (with_reducible first | exact HB.out | apply below_alloc | apply pw_below_drewN | apply below_drew1) | exact HB.out)⟩
           · replace c12 := Bool.eq_false_iff.mpr c12
             subst c12
             have H1 : none = some r := by rw [if_neg (show ¬ (false = true) by decide)] at H; exact H
             cases H1
         · rw [if_neg c11] at H
           cases H
       · rw [if_neg c10] at H
         cases H
     · rw [if_neg c9] at H
       cases H
   · replace c8 := Bool.eq_false_iff.mpr c8
     subst c8
     have H1 : none = some r := by rw [if_neg (show ¬ (false = true) by decide)] at H; exact H
     cases H1
 · rw [if_neg c6] at H
   cases H
/-! ### partitalaw25_Few: function 11 -/
def partitalaw25_Few.f (l0 : List Int) : Option (List Int) := if 0 ≤ (mn (l0.length : Int) 101) then (if (mn (l0.length : Int) 101) ≤ (l0.length : Int) then (some (l0.take ((mn (l0.length : Int) 101) : Int).toNat)) else (none)) else (none)
set_option maxHeartbeats 8000000 in
set_option maxRecDepth 100000 in
theorem partitalaw25_Few.calls (P0_ : Nat → Prop) (u9000_ : Value) (l0 : List Int) (r : List Int) (w0 w : World) (hB : Below w0.heap.size w0 w) (ho0 : Kd.R (Kd.int .i64) 3 w w0.heap.size P0_ u9000_ l0) (h : partitalaw25_Few.f l0 = some r) :
 Calls Tryd.prog 11 #[u9000_] w fun e w' => ∃ v0_ : Value, e = .returned (v0_) ∧ Kd.R (Kd.int .i64) 3 w' w0.heap.size (fun k_ => (P0_ k_ ∨ w.heap.size ≤ k_)) v0_ r ∧ Below w0.heap.size w0 w' ∧ Kept w w' (fun k_ => P0_ k_) := by
 have HO0 := Aside0.mk (show Kd.R (Kd.int .i64) 3 w w0.heap.size (fun k_ => (P0_ k_ ∨ w.heap.size ≤ k_)) u9000_ l0 from Kd.R_mono ho0 (fun k_ hk => (.inl hk)))
 have HK := Aside0.mk (Kept.refl w (fun k_ => P0_ k_))
 have HW0 := Aside0.mk hB.size
 have HB := Aside0.mk hB
 clear hB
 have H : (if 0 ≤ (mn (l0.length : Int) 101) then (if (mn (l0.length : Int) 101) ≤ (l0.length : Int) then (some (l0.take ((mn (l0.length : Int) 101) : Int).toNat)) else (none)) else (none)) = some r := h
 clear h
 obtain ⟨ji2, hji2⟩ : ∃ j_ : Int, (mn (l0.length : Int) 101) = j_ := ⟨_, rfl⟩
 replace H : (if 0 ≤ (ji2) then (if (ji2) ≤ (l0.length : Int) then (some (l0.take ((ji2) : Int).toNat)) else (none)) else (none)) = some r := by first | (rw [hji2] at H; exact H) | (simp only [hji2] at H ⊢; exact H)
 (try (have hji2h : ji2 ≤ 101 := by (rw [← hji2]; unfold mn; (repeat' split) <;> omega)))
 (try (have hji2g : ji2 ≤ 64 := by omega))
 (try (have hji2l : 0 ≤ ji2 := by (rw [← hji2]; unfold mn; (repeat' split) <;> omega)))
 (try (have hji2m : 0 ≤ ji2 := by omega))
 have hji2_ : (if 101 < (l0.length : Int) then 101 else (l0.length : Int)) = ji2 := hji2
 by_cases c3 : 0 ≤ (ji2)
 · rw [if_pos c3] at H
   have c3b0 := eq_true c3
   have c3b1 : decide (0 ≤ (ji2)) = true := decide_eq_true c3
   clear c3
   by_cases c4 : (ji2) ≤ (l0.length : Int)
   · rw [if_pos c4] at H
     have c4b0 := eq_true c4
     have c4b1 : decide ((ji2) ≤ (l0.length : Int)) = true := decide_eq_true c4
     clear c4
     obtain ⟨y152, hy152⟩ : ∃ y_ : List Int, y_ = (l0.take ((ji2) : Int).toNat) := ⟨_, rfl⟩
     replace H : (some y152) = some r := by first | (rw [hy152]; with_reducible exact H) | (have H2_ := (Option.bind_some _ _).symm.trans H; rw [hy152]; with_reducible exact H2_) | (have H2_ := (Option.bind_some _ _).symm.trans H; with_reducible exact H2_) | with_reducible exact H | (rw [hy152]; exact H) | exact H
     have Ny152 := Aside0.mk hy152
     clear hy152
     obtain rfl := Option.some.inj H
     obtain ⟨Ao5, co5, eo5⟩ := Kd.R_slice HO0.out
     subst eo5
     have q6 : ((ji2) : Int) ≤ ((l0.length : Int) : Int) := of_decide_eq_true (by first | (with_reducible assumption) | assumption)
     obtain ⟨i06, hi06, _, hsz6, _⟩ := info_parts info3
     have hcut6 := cut_to (P := Tryd.prog) 22 3 .i64 Tryd.underlying22 hi06 Ao5 l0.length co5 (ji2) (of_decide_eq_true (by first | (with_reducible assumption) | assumption)) q6 (Kd.R_reads' HO0.out).2.1
     have hr6 := Kd.R_take (m := ((ji2) : Int).toNat) HO0.out (by omega)
     have hy6 : y152.length = ((ji2) : Int).toNat := (by rw [Ny152.out, List.length_take]; omega)
     rw [← Ny152.out] at hr6
     rw [← hy6] at hr6 hcut6
     clear hy6 hi06 hsz6 HO0
     have HO154 := Aside0.mk hr6
     clear hr6
     replace q6 := eq_true q6
     go_enter Tryd.func11, Tryd.ntmps11
     go_wp2
     go_ret
     exact ⟨_, by first | rfl | (simp [errW_none, errW_some] <;> rfl) | (simp only [← hji2]; first | rfl | (simp [errW_none, errW_some] <;> rfl)) | (simp [*, errW_none, errW_some] <;> rfl), by (with_reducible repeat (first | apply Kd.R_alloc | apply Kd.R_drewN | apply Kd.R_drew)); exact HO154.out, by repeat (first | (with_reducible first | exact HB.out | apply below_alloc | apply pw_below_drewN | apply below_drew1) | exact HB.out), by repeat (first | (with_reducible first | exact HK.out | apply Kept.alloc | apply Kept.drewN | apply Kept.drew) | exact HK.out)⟩
   · rw [if_neg c4] at H
     exact absurd H (by simp)
 · rw [if_neg c3] at H
   exact absurd H (by simp)

/-! ### partitaref25_Cost: function 13 -/
mutual
def partitaref25_Cost.j0 : Nat → Int → Int → Int → Bool → Option (Int × Bool)
 | 0, _, _, _, _ => none
 | k + 1, x0, x1, x2, x35 => if x35 = true then (some (0, false)) else (if (wrap64 (x2 - x0)) = 0 then (some (0, true)) else (if x1 = 0 then (partitaref25_Cost.j1 k x1 (wrap64 (x2 - x0)) true) else (partitaref25_Cost.j1 k x1 (wrap64 (x2 - x0)) (decide ((wrap64 (x2 - x0)) ≥ (wrap64 (5 * x1)))))))
def partitaref25_Cost.j1 : Nat → Int → Int → Bool → Option (Int × Bool)
 | 0, _, _, _ => none
 | k + 1, x1, x8, x48 => if x48 = true then (some (10000, true)) else (if x1 ≥ (wrap64 (5 * x8)) then (some (0, true)) else (if (wrap64 ((wrap64 (x1 * x1)) * x1)) = 0 then (none) else (some (mn 10000 (wrap64 (Int.tdiv (wrap64 ((wrap64 ((wrap64 (100 * x8)) * x8)) * x8)) (wrap64 ((wrap64 (x1 * x1)) * x1)))), true))))
end
def partitaref25_Cost.f (k : Nat) (a0 : Int) (a1 : Int) (a2 : Int) : Option (Int × Bool) := if a0 < 1 then (partitaref25_Cost.j0 k a0 a1 a2 true) else (if a0 > 100000 then (partitaref25_Cost.j0 k a0 a1 a2 true) else (if a1 < 0 then (partitaref25_Cost.j0 k a0 a1 a2 true) else (if a1 > 10000000 then (partitaref25_Cost.j0 k a0 a1 a2 true) else (if a2 < 1 then (partitaref25_Cost.j0 k a0 a1 a2 true) else (if a2 > 100000 then (partitaref25_Cost.j0 k a0 a1 a2 true) else (partitaref25_Cost.j0 k a0 a1 a2 (decide (a0 > a2))))))))
theorem partitaref25_Cost.mono_l : ∀ k, (∀ y0 y1 y2 y3, LeO (partitaref25_Cost.j0 k y0 y1 y2 y3) (partitaref25_Cost.j0 (k + 1) y0 y1 y2 y3)) ∧ (∀ y0 y1 y2, LeO (partitaref25_Cost.j1 k y0 y1 y2) (partitaref25_Cost.j1 (k + 1) y0 y1 y2))
 | 0 => ⟨fun _ _ _ _ r h => by simp [partitaref25_Cost.j0] at h, fun _ _ _ r h => by simp [partitaref25_Cost.j1] at h⟩
 | k + 1 => by
  obtain ⟨ih0, ih1⟩ := partitaref25_Cost.mono_l k
  refine ⟨?_, ?_⟩
  · intro y0 y1 y2 y3
    unfold partitaref25_Cost.j0
    repeat' first
    | (with_reducible exact ih0 _ _ _ _)
    | (with_reducible exact ih1 _ _ _)
    | (with_reducible exact LeO.refl _)
    | (with_reducible exact LeO.none _)
    | (with_reducible refine LeO.ite ?_ ?_)
    | (with_reducible refine LeO.bind ?_ (fun _ => ?_))
    | exact ih0 _ _ _ _
    | exact ih1 _ _ _
    | exact LeO.none _
    | refine LeO.ite ?_ ?_
    | refine LeO.bind ?_ (fun _ => ?_)
  · intro y0 y1 y2
    unfold partitaref25_Cost.j1
    repeat' first
    | (with_reducible exact ih0 _ _ _ _)
    | (with_reducible exact ih1 _ _ _)
    | (with_reducible exact LeO.refl _)
    | (with_reducible exact LeO.none _)
    | (with_reducible refine LeO.ite ?_ ?_)
    | (with_reducible refine LeO.bind ?_ (fun _ => ?_))
    | exact ih0 _ _ _ _
    | exact ih1 _ _ _
    | exact LeO.none _
    | refine LeO.ite ?_ ?_
    | refine LeO.bind ?_ (fun _ => ?_)
theorem partitaref25_Cost.mono : ∀ a0 a1 a2 k, LeO (partitaref25_Cost.f k a0 a1 a2) (partitaref25_Cost.f (k + 1) a0 a1 a2) := by
 intro a0 a1 a2 k
 obtain ⟨ih0, ih1⟩ := partitaref25_Cost.mono_l k
 unfold partitaref25_Cost.f
 repeat' first
  | (with_reducible exact ih0 _ _ _ _)
  | (with_reducible exact ih1 _ _ _)
  | (with_reducible exact LeO.refl _)
  | (with_reducible exact LeO.none _)
  | (with_reducible refine LeO.ite ?_ ?_)
  | (with_reducible refine LeO.bind ?_ (fun _ => ?_))
  | exact ih0 _ _ _ _
  | exact ih1 _ _ _
  | exact LeO.none _
  | refine LeO.ite ?_ ?_
  | refine LeO.bind ?_ (fun _ => ?_)
set_option maxHeartbeats 8000000 in
set_option maxRecDepth 100000 in
theorem partitaref25_Cost.calls (k : Nat) (a0 : Int) (a1 : Int) (a2 : Int) (r1 : Int) (r2 : Bool) (w : World) (h : partitaref25_Cost.f k a0 a1 a2 = some (r1, r2)) :
 Calls Tryd.prog 13 #[.int .i64 a0, .int .i64 a1, .int .i64 a2] w fun e w' => e = .returned (.tuple #[.int .i64 r1, .bool r2]) ∧ Below w.heap.size w w' := by
 have HB := Aside0.mk (Below.refl w.heap.size w)
 have H : (if a0 < 1 then (partitaref25_Cost.j0 k a0 a1 a2 true) else (if a0 > 100000 then (partitaref25_Cost.j0 k a0 a1 a2 true) else (if a1 < 0 then (partitaref25_Cost.j0 k a0 a1 a2 true) else (if a1 > 10000000 then (partitaref25_Cost.j0 k a0 a1 a2 true) else (if a2 < 1 then (partitaref25_Cost.j0 k a0 a1 a2 true) else (if a2 > 100000 then (partitaref25_Cost.j0 k a0 a1 a2 true) else (partitaref25_Cost.j0 k a0 a1 a2 (decide (a0 > a2))))))))) = some (r1, r2) := h
 clear h
 have HC4 := Aside0.mk H
 clear H
 go_enter Tryd.func13, Tryd.ntmps13
 go_upto_region 1 with (fail)
 go_cut [35] (fun v35 wc => ∃ (kq : Nat) (x35_3 : Bool), v35 = .bool x35_3 ∧ Aside0 (partitaref25_Cost.j0 kq a0 a1 a2 x35_3 = some (r1, r2)) ∧ Aside0 (kq ≤ k) ∧ Aside0 (Below w.heap.size w wc))
 case first =>
  have H := HC4.out
  clear HC4
  by_cases c5 : a0 < 1
  · rw [if_pos c5] at H
    have c5b0 : decide (a0 < 1) = true := decide_eq_true c5
    clear c5
    (first | rw [c5b0] | (simp only [i64_w, i32_w]; rw [c5b0]) | skip)
    have H' := Aside0.mk H
    clear H
    go_wp2
    go_meet
    case rel => exact ⟨_, (true), (by first | rfl | (simp; done) | (simp [*]; done) | (simp [wrap64]; done)), H', ⟨by first | omega | exact Nat.le_refl _⟩, ⟨by repeat (first | (with_reducible first | exact HB.out | apply below_alloc | apply pw_below_drewN | apply below_drew1) | exact HB.out)⟩⟩
  · rw [if_neg c5] at H
    have c5b0 : decide (a0 < 1) = false := decide_eq_false c5
    clear c5
    (first | rw [c5b0] | (simp only [i64_w, i32_w]; rw [c5b0]) | skip)
    by_cases c6 : a0 > 100000
    · rw [if_pos c6] at H
      have c6b0 : decide (100000 < a0) = true := decide_eq_true c6
      clear c6
      have H' := Aside0.mk H
      clear H
      go_wp2
      go_meet
      case rel => exact ⟨_, (true), (by first | rfl | (simp; done) | (simp [*]; done) | (simp [wrap64]; done)), H', ⟨by first | omega | exact Nat.le_refl _⟩, ⟨by repeat (first | (with_reducible first | exact HB.out | apply below_alloc | apply pw_below_drewN | apply below_drew1) | exact HB.out)⟩⟩
    · rw [if_neg c6] at H
      have c6b0 : decide (100000 < a0) = false := decide_eq_false c6
      clear c6
      by_cases c7 : a1 < 0
      · rw [if_pos c7] at H
        have c7b0 : decide (a1 < 0) = true := decide_eq_true c7
        clear c7
        have H' := Aside0.mk H
        clear H
        go_wp2
        go_meet
        case rel => exact ⟨_, (true), (by first | rfl | (simp; done) | (simp [*]; done) | (simp [wrap64]; done)), H', ⟨by first | omega | exact Nat.le_refl _⟩, ⟨by repeat (first | (with_reducible first | exact HB.out | apply below_alloc | apply pw_below_drewN | apply below_drew1) | exact HB.out)⟩⟩
      · rw [if_neg c7] at H
        have c7b0 : decide (a1 < 0) = false := decide_eq_false c7
        clear c7
        by_cases c8 : a1 > 10000000
        · rw [if_pos c8] at H
          have c8b0 : decide (10000000 < a1) = true := decide_eq_true c8
          clear c8
          have H' := Aside0.mk H
          clear H
          go_wp2
          go_meet
          case rel => exact ⟨_, (true), (by first | rfl | (simp; done) | (simp [*]; done) | (simp [wrap64]; done)), H', ⟨by first | omega | exact Nat.le_refl _⟩, ⟨by repeat (first | (with_reducible first | exact HB.out | apply below_alloc | apply pw_below_drewN | apply below_drew1) | exact HB.out)⟩⟩
        · rw [if_neg c8] at H
          have c8b0 : decide (10000000 < a1) = false := decide_eq_false c8
          clear c8
          by_cases c9 : a2 < 1
          · rw [if_pos c9] at H
            have c9b0 : decide (a2 < 1) = true := decide_eq_true c9
            clear c9
            have H' := Aside0.mk H
            clear H
            go_wp2
            go_meet
            case rel => exact ⟨_, (true), (by first | rfl | (simp; done) | (simp [*]; done) | (simp [wrap64]; done)), H', ⟨by first | omega | exact Nat.le_refl _⟩, ⟨by repeat (first | (with_reducible first | exact HB.out | apply below_alloc | apply pw_below_drewN | apply below_drew1) | exact HB.out)⟩⟩
          · rw [if_neg c9] at H
            have c9b0 : decide (a2 < 1) = false := decide_eq_false c9
            clear c9
            by_cases c10 : a2 > 100000
            · rw [if_pos c10] at H
              have c10b0 : decide (100000 < a2) = true := decide_eq_true c10
              clear c10
              have H' := Aside0.mk H
              clear H
              go_wp2
              go_meet
              case rel => exact ⟨_, (true), (by first | rfl | (simp; done) | (simp [*]; done) | (simp [wrap64]; done)), H', ⟨by first | omega | exact Nat.le_refl _⟩, ⟨by repeat (first | (with_reducible first | exact HB.out | apply below_alloc | apply pw_below_drewN | apply below_drew1) | exact HB.out)⟩⟩
            · rw [if_neg c10] at H
              have c10b0 : decide (100000 < a2) = false := decide_eq_false c10
              clear c10
              have H' := Aside0.mk H
              clear H
              go_wp2
              go_meet
              case rel => exact ⟨_, (decide (a0 > a2)), (by first | rfl | (simp; done) | (simp [*]; done) | (simp [wrap64]; done)), H', ⟨by first | omega | exact Nat.le_refl _⟩, ⟨by repeat (first | (with_reducible first | exact HB.out | apply below_alloc | apply pw_below_drewN | apply below_drew1) | exact HB.out)⟩⟩
 case rest =>
  clear HC4
  try clear c1
  try clear p2
  try clear c5
  try clear c5b0
  try clear c6
  try clear c6b0
  try clear c7
  try clear c7b0
  try clear c8
  try clear c8b0
  try clear c9
  try clear c9b0
  try clear c10
  try clear c10b0
  obtain ⟨kq, x35_3, rfl, HA, HJ3, HB⟩ := hcut
  cases kq with
  | zero => exact absurd HA.out (by simp [partitaref25_Cost.j0])
  | succ kj3 =>
   have H := HA.out
   clear HA
   simp only [partitaref25_Cost.j0] at H
   by_cases c11 : x35_3 = true
   · subst c11
     have H1 : (some (0, false)) = some (r1, r2) := by rw [if_pos rfl] at H; exact H
     clear H
     have H := H1
     clear H1
     simp only [Option.some.injEq, Prod.mk.injEq] at H
     obtain ⟨rfl, rfl⟩ := H
     go_wp2
     go_ret2
     exact ⟨by first | rfl | (simp [errW_none, errW_some] <;> rfl) | (simp [*, errW_none, errW_some] <;> rfl), by repeat (first | (with_reducible first | exact HB.out | apply below_alloc | apply pw_below_drewN | apply below_drew1) | exact HB.out)⟩
   · replace c11 := Bool.eq_false_iff.mpr c11
     subst c11
     have H1 : (if (wrap64 (a2 - a0)) = 0 then (some (0, true)) else (if a1 = 0 then (partitaref25_Cost.j1 kj3 a1 (wrap64 (a2 - a0)) true) else (partitaref25_Cost.j1 kj3 a1 (wrap64 (a2 - a0)) (decide ((wrap64 (a2 - a0)) ≥ (wrap64 (5 * a1))))))) = some (r1, r2) := by rw [if_neg (show ¬ (false = true) by decide)] at H; exact H
     clear H
     have H := H1
     clear H1
     by_cases c12 : (wrap64 (a2 - a0)) = 0
     · rw [if_pos c12] at H
       have c12b0 : ((wrap64 (a2 - a0)) == 0) = true := beq_iff_eq.mpr c12
       have c12b1 : ((wrap64 (a2 - a0)) != 0) = false := bne_eq_false_iff_eq.mpr c12
       clear c12
       simp only [Option.some.injEq, Prod.mk.injEq] at H
       obtain ⟨rfl, rfl⟩ := H
       go_wp2
       go_ret2
       exact ⟨by first | rfl | (simp [errW_none, errW_some] <;> rfl) | (simp [*, errW_none, errW_some] <;> rfl), by repeat (first | (with_reducible first | exact HB.out | apply below_alloc | apply pw_below_drewN | apply below_drew1) | exact HB.out)⟩
     · rw [if_neg c12] at H
       have c12b0 : ((wrap64 (a2 - a0)) == 0) = false := beq_eq_false_iff_ne.mpr c12
       have c12b1 : ((wrap64 (a2 - a0)) != 0) = true := bne_iff_ne.mpr c12
       have HC13 := Aside0.mk H
       clear H
       go_upto_region 6 with (fail)
       go_cut [48] (fun v48 wc => ∃ (kq : Nat) (x48_12 : Bool), v48 = .bool x48_12 ∧ Aside0 (partitaref25_Cost.j1 kq a1 (wrap64 (a2 - a0)) x48_12 = some (r1, r2)) ∧ Aside0 (kq ≤ kj3) ∧ Aside0 (Below w.heap.size w wc))
       case first =>
        have H := HC13.out
        clear HC13
        by_cases c14 : a1 = 0
        · rw [if_pos c14] at H
          have c14b0 : (a1 == 0) = true := beq_iff_eq.mpr c14
          have c14b1 : (a1 != 0) = false := bne_eq_false_iff_eq.mpr c14
          clear c14
          (first | rw [c14b0] | (simp only [i64_w, i32_w]; rw [c14b0]) | skip)
          have H' := Aside0.mk H
          clear H
          go_wp2
          go_meet
          case rel => exact ⟨_, (true), (by first | rfl | (simp; done) | (simp [*]; done) | (simp [wrap64]; done)), H', ⟨by have := HJ3.out; first | omega | exact Nat.le_refl _⟩, ⟨by repeat (first | (with_reducible first | exact HB.out | apply below_alloc | apply pw_below_drewN | apply below_drew1) | exact HB.out)⟩⟩
        · rw [if_neg c14] at H
          have c14b0 : (a1 == 0) = false := beq_eq_false_iff_ne.mpr c14
          have c14b1 : (a1 != 0) = true := bne_iff_ne.mpr c14
          (first | rw [c14b0] | (simp only [i64_w, i32_w]; rw [c14b0]) | skip)
          have H' := Aside0.mk H
          clear H
          go_wp2
          go_meet
          case rel => exact ⟨_, (decide ((wrap64 (a2 - a0)) ≥ (wrap64 (5 * a1)))), (by first | rfl | (simp; done) | (simp [*]; done) | (simp [wrap64]; done)), H', ⟨by have := HJ3.out; first | omega | exact Nat.le_refl _⟩, ⟨by repeat (first | (with_reducible first | exact HB.out | apply below_alloc | apply pw_below_drewN | apply below_drew1) | exact HB.out)⟩⟩
       case rest =>
        clear HC13
        try clear c1
        try clear p2
        try clear c5
        try clear c5b0
        try clear c6
        try clear c6b0
        try clear p6
        try clear c7
        try clear c7b0
        try clear c8
        try clear c8b0
        try clear c9
        try clear c9b0
        try clear c10
        try clear c10b0
        try clear c11
        try clear c12
        try clear c12b0
        try clear c12b1
        try clear c13
        try clear c14
        try clear c14b0
        try clear c14b1
        try clear p2
        obtain ⟨kq, x48_12, rfl, HA, HJ12, HB⟩ := hcut
        cases kq with
        | zero => exact absurd HA.out (by simp [partitaref25_Cost.j1])
        | succ kj12 =>
         have H := HA.out
         clear HA
         simp only [partitaref25_Cost.j1] at H
         by_cases c15 : x48_12 = true
         · subst c15
           have H1 : (some (10000, true)) = some (r1, r2) := by rw [if_pos rfl] at H; exact H
           clear H
           have H := H1
           clear H1
           simp only [Option.some.injEq, Prod.mk.injEq] at H
           obtain ⟨rfl, rfl⟩ := H
           go_wp2
           go_ret2
           exact ⟨by first | rfl | (simp [errW_none, errW_some] <;> rfl) | (simp [*, errW_none, errW_some] <;> rfl), by repeat (first | (with_reducible first | exact HB.out | apply below_alloc | apply pw_below_drewN | apply below_drew1) | exact HB.out)⟩
         · replace c15 := Bool.eq_false_iff.mpr c15
           subst c15
           have H1 : (if a1 ≥ (wrap64 (5 * (wrap64 (a2 - a0)))) then (some (0, true)) else (if (wrap64 ((wrap64 (a1 * a1)) * a1)) = 0 then (none) else (some (mn 10000 (wrap64 (Int.tdiv (wrap64 ((wrap64 ((wrap64 (100 * (wrap64 (a2 - a0)))) * (wrap64 (a2 - a0)))) * (wrap64 (a2 - a0)))) (wrap64 ((wrap64 (a1 * a1)) * a1)))), true)))) = some (r1, r2) := by rw [if_neg (show ¬ (false = true) by decide)] at H; exact H
           clear H
           have H := H1
           clear H1
           by_cases c16 : a1 ≥ (wrap64 (5 * (wrap64 (a2 - a0))))
           · rw [if_pos c16] at H
             have c16b0 : decide ((wrap64 (5 * (wrap64 (a2 - a0)))) ≤ a1) = true := decide_eq_true c16
             clear c16
             simp only [Option.some.injEq, Prod.mk.injEq] at H
             obtain ⟨rfl, rfl⟩ := H
             go_wp2
             go_ret2
             exact ⟨by first | rfl | (simp [errW_none, errW_some] <;> rfl) | (simp [*, errW_none, errW_some] <;> rfl), by repeat (first | (with_reducible first | exact HB.out | apply below_alloc | apply pw_below_drewN | apply below_drew1) | exact HB.out)⟩
           · rw [if_neg c16] at H
             have c16b0 : decide ((wrap64 (5 * (wrap64 (a2 - a0)))) ≤ a1) = false := decide_eq_false c16
             clear c16
             by_cases c17 : (wrap64 ((wrap64 (a1 * a1)) * a1)) = 0
             · rw [if_pos c17] at H
               exact absurd H (by simp)
             · rw [if_neg c17] at H
               have c17b0 : ((wrap64 ((wrap64 (a1 * a1)) * a1)) == 0) = false := beq_eq_false_iff_ne.mpr c17
               have c17b1 : ((wrap64 ((wrap64 (a1 * a1)) * a1)) != 0) = true := bne_iff_ne.mpr c17
               obtain ⟨ji18, hji18⟩ : ∃ j_ : Int, (mn 10000 (wrap64 (Int.tdiv (wrap64 ((wrap64 ((wrap64 (100 * (wrap64 (a2 - a0)))) * (wrap64 (a2 - a0)))) * (wrap64 (a2 - a0)))) (wrap64 ((wrap64 (a1 * a1)) * a1))))) = j_ := ⟨_, rfl⟩
               replace H : (some (ji18, true)) = some (r1, r2) := by first | (rw [hji18] at H; exact H) | (simp only [hji18] at H ⊢; exact H)
               have hji18_ : (if (wrap64 (Int.tdiv (wrap64 ((wrap64 ((wrap64 (100 * (wrap64 (a2 - a0)))) * (wrap64 (a2 - a0)))) * (wrap64 (a2 - a0)))) (wrap64 ((wrap64 (a1 * a1)) * a1)))) < 10000 then (wrap64 (Int.tdiv (wrap64 ((wrap64 ((wrap64 (100 * (wrap64 (a2 - a0)))) * (wrap64 (a2 - a0)))) * (wrap64 (a2 - a0)))) (wrap64 ((wrap64 (a1 * a1)) * a1)))) else 10000) = ji18 := hji18
               simp only [Option.some.injEq, Prod.mk.injEq] at H
               obtain ⟨rfl, rfl⟩ := H
               go_wp2
               go_ret2
               exact ⟨by first | rfl | (simp [errW_none, errW_some] <;> rfl) | (simp only [← hji18]; first | rfl | (simp [errW_none, errW_some] <;> rfl)) | (simp [*, errW_none, errW_some] <;> rfl), by repeat (first | (with_reducible first | exact HB.out | apply below_alloc | apply pw_below_drewN | apply below_drew1) | exact HB.out)⟩

end Go.Proofs.YtneaoicjbiebkaaDoor.Q
