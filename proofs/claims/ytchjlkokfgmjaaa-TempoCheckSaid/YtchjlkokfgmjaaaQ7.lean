-- Written by a program of this session (myprint.py), function by function.
import Derived.Test.YtchjlkokfgmjaaaQ0
import Derived.Test.YtchjlkokfgmjaaaQ2
import Derived.Test.YtchjlkokfgmjaaaQ5
import Derived.Test.YtchjlkokfgmjaaaQ6
import Derived.ArgAppend
import Derived.BigRegion
import Derived.ChangeAlike
import Derived.IntWalk
import Derived.RegionTactic
import Derived.Shelf.Abstract
namespace Go.Proofs.Ytchjlkokfgmjaaa.Q
open Go.RowKit Go.Proofs.YtchjlkokfgmjaaaW.PrintWords Go.Proofs.YtchjlkokfgmjaaaW.PrintLast Go.Proofs.YtchjlkokfgmjaaaW.PrintMore
attribute [local go_sem] max2_int min2_int max_two min_two max_three min_three max_four min_four   -- for this text's walks alone
set_option linter.unusedVariables false
set_option linter.unusedSimpArgs false

/-! ### tempo_Place: function 18 -/
theorem sto_func (P : Program) (w : World) (a : Addr) (m : Mode) (fn : Fn) (x y : Array Value) : (store a (.func fn x y) m).run P w = stored P w a (.func fn x y) m := run_store P w a _ m rfl
attribute [local go_sem] sto_func
/-- Whether the grid doesn't hold a place. -/
def oddB (g : Int) (d : S36) : Bool := Int.tmod g d.f0.f1 != 0
set_option maxHeartbeats 1000000 in
set_option maxRecDepth 100000 in
theorem odd_any (B : Nat) (g x y z : Int) (t : Bool) (w : World) (hB : B < w.heap.size) (h0 : w.cell? ⟨B, 0, none⟩ = some (.int .i64 g)) (hy : y ≠ 0) :
    Calls Try.prog 32 #[.agg #[.int .i64 x, .int .i64 y, .int .i64 z, .bool t], .pointer (some ⟨B, 0, none⟩)] w fun e w' => e = .returned (.bool (Int.tmod g y != 0)) ∧ Below w.heap.size w w' := by
  have HB := Aside0.mk (Below.refl w.heap.size w)
  have hu := Try.underlying36
  have hu27 := Try.underlying27
  have hne : B ≠ w.heap.size := by omega
  have hne2 : w.heap.size ≠ B := by omega
  have ey : (y == 0) = false := beq_eq_false_iff_ne.mpr hy
  go_enter Try.func32, Try.ntmps32
  go_wp2
  go_ret
  exact ⟨rfl, below_alloc HB.out _⟩
set_option maxHeartbeats 1000000 in
set_option maxRecDepth 100000 in
theorem Contains_any (g : Nat) (eg : ∀ args w, (callFunc g args).run Try.prog w = .ok (.enter g args) w) (lb : Array Value) (p : S36 → Bool) (A : Option Addr) (c : Nat) (l : List S36) (w : World) (hr : Kd.C k36 w A l.length l) (hc : l.length ≤ c) (hlen : l.length ≤ 1000)
    (hP : ∀ (j : Nat) (_ : j < l.length) (W : World), Below w.heap.size w W → Calls Try.prog g (#[.agg #[.int .i64 (rd_T36 l j).f0.f0, .int .i64 (rd_T36 l j).f0.f1, .int .i64 (rd_T36 l j).f1, .bool (rd_T36 l j).f2]] ++ lb) W fun e W' => e = .returned (.bool (p (rd_T36 l j))) ∧ Below W.heap.size W W') :
    Calls Try.prog 31 #[.slice A l.length c, .func (.func g) #[] lb] w fun e w' => e = .returned (.bool (decide (0 ≤ idxI p l))) ∧ Below w.heap.size w w' := by
  have HP := Aside0.mk (IndexFunc_any g eg lb p A c l w hr hc hlen hP)
  clear hP hr eg
  go_enter Try.func31, Try.ntmps31
  go_wp2_with (go_at_call 44; (with_reducible refine HP.out.mono ?_); rintro e w1 ⟨rfl, hb⟩; have HB1 := Aside0.mk hb; clear hb)
  go_ret
  exact ⟨rfl, HB1.out⟩
/-- The first of i .. j - 1 at which p holds, by halves; at most m steps. -/
def searchO (p : Int → Option Bool) : Nat → Int → Int → Option Int
  | 0, _, _ => none
  | m + 1, i, j => if i < j then (p ((i + j) / 2)).bind fun b => if b = true then searchO p m i ((i + j) / 2) else searchO p m ((i + j) / 2 + 1) j else some i
theorem searchO_le {p q : Int → Option Bool} (h : ∀ x, LeO (p x) (q x)) : ∀ m i j, LeO (searchO p m i j) (searchO q m i j)
  | 0, _, _ => LeO.refl _
  | m + 1, i, j => by
    unfold searchO
    exact LeO.ite (LeO.bind (h _) (fun b => LeO.ite (searchO_le h m _ _) (searchO_le h m _ _))) (LeO.refl _)
set_option maxHeartbeats 2000000 in
set_option maxRecDepth 100000 in
theorem Search_any (g : Nat) (eg : ∀ args w, (callFunc g args).run Try.prog w = .ok (.enter g args) w) (lb : Array Value) (p : Int → Option Bool) (n r : Int) (w : World) (hn : n ≤ 4398046511104) (h0 : 0 ≤ n)
    (hP : ∀ (x : Int) (b : Bool) (W : World), Below w.heap.size w W → p x = some b → Calls Try.prog g (#[.int .i64 x] ++ lb) W fun e W' => e = .returned (.bool b) ∧ Below W.heap.size W W') (h : searchO p 64 0 n = some r) :
    Calls Try.prog 49 #[.int .i64 n, .func (.func g) #[] lb] w fun e w' => e = .returned (.int .i64 r) ∧ Below w.heap.size w w' := by
  have HP := Aside0.mk hP
  have HM := Aside0.mk h
  have HB := Aside0.mk (Below.refl w.heap.size w)
  clear hP h
  go_enter Try.func49, Try.ntmps49
  go_wp2
  go_loopw [5, 6] (fun x y wr => ∃ (i j m : Nat), x = .int .i64 i ∧ y = .int .i64 j ∧ (j : Int) ≤ 4398046511104 ∧ i ≤ j ∧ Aside0 (searchO p m i j = some r) ∧ Aside0 (Below w.heap.size w wr)) (fun x y _ => (intOf y - intOf x).toNat)
  case atStart => exact ⟨0, n.toNat, 64, rfl, by rw [Int.toNat_of_nonneg h0], by omega, by omega, by rw [Int.toNat_of_nonneg h0]; exact HM, HB⟩
  case round =>
    obtain ⟨i, j, m, rfl, rfl, hj, hij, HM, HB⟩ := hrel
    by_cases hlt : i < j
    · have h := HM.out
      cases m with
      | zero => simp [searchO] at h
      | succ m =>
        unfold searchO at h
        rw [if_pos (by omega)] at h
        obtain ⟨b, hp, h⟩ := Option.bind_eq_some_iff.mp h
        have M := Aside0.mk (HP.out _ b _ HB.out hp)
        have hltd : decide (i < j) = true := decide_eq_true hlt
        have hk : ∃ d : Nat, ((i : Int) + j) / 2 = d ∧ i ≤ d ∧ d < j := ⟨(i + j) / 2, by omega, by omega, by omega⟩
        obtain ⟨d, hd, hd1, hd2⟩ := hk
        rw [hd] at M h
        clear hp
        cases b
        · have HM := Aside0.mk (show searchO p m ((d + 1 : Nat) : Int) j = some r from by simpa using h)
          clear h
          go_wp2_with (go_at_fn g; (with_reducible refine M.out.mono ?_); rintro e w1 ⟨rfl, hb⟩; have HB1 := Aside0.mk hb; clear hb)
          go_roundw
          case rel => exact ⟨d + 1, j, m, by go_num, rfl, hj, by omega, HM, ⟨HB.out.trans (HB1.out.mono HB.out.size)⟩⟩
          case measure => simp [intOf]; omega
        · have HM := Aside0.mk (show searchO p m i (d : Int) = some r from by simpa using h)
          clear h
          go_wp2_with (go_at_fn g; (with_reducible refine M.out.mono ?_); rintro e w1 ⟨rfl, hb⟩; have HB1 := Aside0.mk hb; clear hb)
          go_roundw
          case rel => exact ⟨i, d, m, rfl, rfl, by omega, by omega, HM, ⟨HB.out.trans (HB1.out.mono HB.out.size)⟩⟩
          case measure => simp [intOf]; omega
    · have h := HM.out
      cases m with
      | zero => simp [searchO] at h
      | succ m =>
        unfold searchO at h
        rw [if_neg (by omega)] at h
        obtain rfl := Option.some.inj h
        have hltd : decide (i < j) = false := decide_eq_false hlt
        clear h HM
        go_wp2
        go_ret
        exact ⟨rfl, HB.out⟩
set_option maxHeartbeats 2000000 in
set_option maxRecDepth 100000 in
theorem first_any (g : Nat) (eg : ∀ args w, (callFunc g args).run Try.prog w = .ok (.enter g args) w) (lb : Array Value) (p : Int → Option Bool) (n r : Int) (w : World) (hn : n ≤ 4398046511104) (h0 : 0 ≤ n)
    (hP : ∀ (x : Int) (b : Bool) (W : World), Below w.heap.size w W → p x = some b → Calls Try.prog g (#[.int .i64 x] ++ lb) W fun e W' => e = .returned (.bool b) ∧ Below W.heap.size W W') (h : searchO p 64 0 n = some r) :
    Calls Try.prog 35 #[.agg #[.int .i64 n, .func (.func g) #[] lb]] w fun e w' => e = .returned (.int .i64 r) ∧ Below w.heap.size w w' := by
  have HB := Aside0.mk (Below.refl w.heap.size w)
  have HS := Aside0.mk (fun W (hb : Below w.heap.size w W) => Search_any g eg lb p n r W hn h0 (fun x b W2 h2 => hP x b W2 (hb.trans (h2.mono hb.size))) h)
  have hu := Try.underlying61
  clear hP h eg
  go_enter Try.func35, Try.ntmps35
  go_wp2_with (go_at_call 49; (with_reducible refine (HS.out _ ?hb1).mono ?_); (case hb1 => (repeat (first | exact HB.out | apply below_alloc))); rintro e w1 ⟨rfl, hb⟩; have HB1 := Aside0.mk ((by repeat (first | exact HB.out | apply below_alloc) : Below w.heap.size w _).trans (hb.mono (by simp))); clear hb)
  go_ret
  exact ⟨rfl, HB1.out⟩
/-- Whether the place number x of the grid is later than micros. -/
def lateO (k : Nat) (l : List S36) (g mi : Int) (x : Int) : Option Bool :=
  (ratio_Of.f x g).bind fun t => (tempo_Micros.f k l t.1 t.2.1).bind fun m => some (decide (mi < m.1))
set_option maxHeartbeats 2000000 in
set_option maxRecDepth 100000 in
theorem late_any (k : Nat) (Bg Bl Bm : Nat) (A : Option Addr) (c : Nat) (l : List S36) (g mi x : Int) (b : Bool) (w : World) (hg : w.heap[Bg]? = some (.cells #[.int .i64 g] 3 (0, 0))) (hl : w.heap[Bl]? = some (.cells #[.slice A l.length c] 22 (0, 0))) (hm : w.heap[Bm]? = some (.cells #[.int .i64 mi] 3 (0, 0)))
    (hr : Kd.C k36 w A l.length l) (hc : l.length ≤ c) (h : lateO k l g mi x = some b) :
    Calls Try.prog 33 #[.int .i64 x, .pointer (some ⟨Bg, 0, none⟩), .pointer (some ⟨Bl, 0, none⟩), .pointer (some ⟨Bm, 0, none⟩)] w fun e w' => e = .returned (.bool b) ∧ Below w.heap.size w w' := by
  unfold lateO at h
  obtain ⟨⟨t1, t2, t3⟩, hO, h⟩ := Option.bind_eq_some_iff.mp h
  simp only at h
  obtain ⟨⟨m1, m2⟩, hM, h⟩ := Option.bind_eq_some_iff.mp h
  obtain rfl := Option.some.inj h
  have HO := Aside0.mk (fun W => ratio_Of.calls x g t1 t2 t3 W hO)
  have HM := Aside0.mk (fun W (hb : Below w.heap.size w W) => tempo_Micros.calls k A c l t1 t2 m1 m2 W (Kd.C_below hr hb) hc hM)
  have HB := Aside0.mk (Below.refl w.heap.size w)
  have hu27 := Try.underlying27
  have g0 : w.cell? ⟨Bg, 0, none⟩ = some (.int .i64 g) := (blk_cell hg 0).trans rfl
  have l0 : w.cell? ⟨Bl, 0, none⟩ = some (.slice A l.length c) := (blk_cell hl 0).trans rfl
  have m0 : w.cell? ⟨Bm, 0, none⟩ = some (.int .i64 mi) := (blk_cell hm 0).trans rfl
  have HL := Aside0.mk (And.intro (blk_lt hl) (And.intro (blk_lt hm) (And.intro l0 m0)))
  have q1 := blk_lt hl
  have q2 := blk_lt hm
  clear hr hO hM h hg hl hm
  go_enter Try.func33, Try.ntmps33
  go_wp2_with (fail)
  go_at_call 34
  (with_reducible refine (HO.out _).mono ?_)
  rintro e w1 ⟨rfl, hb⟩
  have HB1 := Aside0.mk hb
  have l1 := (hb.cell (p := ⟨Bl, 0, none⟩) q1).trans l0
  have m1_ := (hb.cell (p := ⟨Bm, 0, none⟩) q2).trans m0
  have s1 := hb.size
  have n1_ : w1.heap.size ≠ Bl := by omega
  have n2_ : w1.heap.size ≠ Bm := by omega
  have n3_ : Bl ≠ w1.heap.size := by omega
  have n4_ : Bm ≠ w1.heap.size := by omega
  clear hb g0 l0 m0
  have l2 := ((below_alloc (Below.refl w1.heap.size w1) (.cells #[.int .i64 t1, .int .i64 t2] 27)).cell (p := ⟨Bl, 0, none⟩) (by show Bl < w1.heap.size; omega)).trans l1
  go_wp2_with (fail)
  go_at_call 15
  (with_reducible refine (HM.out _ (below_alloc HB1.out _)).mono ?_)
  rintro e w2 ⟨rfl, hb⟩
  have HB2 := Aside0.mk ((below_alloc HB1.out _).trans (hb.mono (by simp; omega)))
  have m2_ := (HB2.out.cell (p := ⟨Bm, 0, none⟩) q2).trans HL.out.2.2.2
  clear hb l1 l2 m1_
  go_wp2
  go_ret
  exact ⟨rfl, HB2.out⟩
/-- The blocks of Place: the map, the time, the grid, what is told. -/
structure P4 (W : World) (nl nm ng nr : Nat) (A : Option Addr) (n c : Nat) (mi g : Int) : Prop where
  l : W.heap[nl]? = some (.cells #[.slice A n c] 22 (0, 0))
  m : W.heap[nm]? = some (.cells #[.int .i64 mi] 3 (0, 0))
  g : W.heap[ng]? = some (.cells #[.int .i64 g] 3 (0, 0))
  r : W.heap[nr]? = some (.cells #[.int .i64 0, .int .i64 0] 27 (0, 0))
theorem P4.step {W W1 : World} {nl nm ng nr : Nat} {A : Option Addr} {n c : Nat} {mi g : Int} (h : P4 W nl nm ng nr A n c mi g) (hb : Below W.heap.size W W1) : P4 W1 nl nm ng nr A n c mi g := ⟨blk_below h.l hb, blk_below h.m hb, blk_below h.g hb, blk_below h.r hb⟩
theorem P4.new (w : World) (A : Option Addr) (n c : Nat) (mi g : Int) : P4 ((((w.alloc (.cells #[.slice A n c] 22)).alloc (.cells #[.int .i64 mi] 3)).alloc (.cells #[.int .i64 g] 3)).alloc (.cells #[.int .i64 0, .int .i64 0] 27)) w.heap.size (w.heap.size + 1) (w.heap.size + 1 + 1) (w.heap.size + 1 + 1 + 1) A n c mi g := by
  have h1 := blk_new w (.cells #[.slice A n c] 22)
  have h2 := blk_new (w.alloc (.cells #[.slice A n c] 22)) (.cells #[.int .i64 mi] 3)
  have h3 := blk_new ((w.alloc (.cells #[.slice A n c] 22)).alloc (.cells #[.int .i64 mi] 3)) (.cells #[.int .i64 g] 3)
  have h4 := blk_new (((w.alloc (.cells #[.slice A n c] 22)).alloc (.cells #[.int .i64 mi] 3)).alloc (.cells #[.int .i64 g] 3)) (.cells #[.int .i64 0, .int .i64 0] 27)
  simp only [World.size_alloc] at h1 h2 h3 h4
  exact ⟨blk_alloc (blk_alloc (blk_alloc h1 _) _) _, blk_alloc (blk_alloc h2 _) _, blk_alloc h3 _, h4⟩
def tempo_Place.f (k : Nat) (l : List S36) (mi g : Int) : Option (Int × Int × Int) :=
  if l.length ≤ 999 then (tempo_Check.f k l).bind fun c => if c.2 = 0 then
      if mi < 0 then some (0, 0, 2) else if g < 1 then some (0, 0, 2) else if 10000 < g then some (0, 0, 2)
      else if (l.all fun d => d.f0.f1 != 0) = true then
        if 0 ≤ idxI (oddB g) l then some (0, 0, 2)
        else (searchO (lateO k l g mi) 64 0 (100000 * g + 1)).bind fun r => ratio_Of.f (wrap64 (r - 1)) g
      else none
    else some (0, 0, c.2)
  else none
theorem lateO_le (l : List S36) (g mi : Int) (k : Nat) (x : Int) : LeO (lateO k l g mi x) (lateO (k + 1) l g mi x) := by
  unfold lateO
  exact LeO.bind (LeO.refl _) (fun _ => LeO.bind (tempo_Micros.mono _ _ _ _) (fun _ => LeO.refl _))
theorem tempo_Place.mono : ∀ l mi g k, LeO (tempo_Place.f k l mi g) (tempo_Place.f (k + 1) l mi g) := by
  intro l mi g k
  unfold tempo_Place.f
  exact LeO.ite (LeO.bind (tempo_Check.mono _ _) (fun _ => LeO.ite (LeO.ite (LeO.refl _) (LeO.ite (LeO.refl _) (LeO.ite (LeO.refl _) (LeO.ite (LeO.ite (LeO.refl _) (LeO.bind (searchO_le (fun x => lateO_le l g mi k x) _ _ _) (fun _ => LeO.refl _))) (LeO.refl _))))) (LeO.refl _))) (LeO.refl _)
set_option maxHeartbeats 4000000 in
set_option maxRecDepth 100000 in
theorem Place_err (k : Nat) (A0 : Option Addr) (c0 : Nat) (l0 : List S36) (mi g n er : Int) (w : World) (hr : Kd.C k36 w A0 l0.length l0) (hc : l0.length ≤ c0) (hC : tempo_Check.f k l0 = some (n, er)) (he : er ≠ 0) :
    Calls Try.prog 18 #[.slice A0 l0.length c0, .int .i64 mi, .int .i64 g] w fun e w' => e = .returned (.tuple #[.agg #[.int .i64 0, .int .i64 0], .int .i64 er]) ∧ Below w.heap.size w w' := by
  have HC := Aside0.mk (fun W (hb : Below w.heap.size w W) => tempo_Check.calls k A0 c0 l0 n er W (Kd.C_below hr hb) hc hC)
  have HB := Aside0.mk (Below.refl w.heap.size w)
  have P0 := Aside0.mk (P4.new w A0 l0.length c0 mi g)
  have hu27 := Try.underlying27
  have e1 : (er == 0) = false := beq_eq_false_iff_ne.mpr he
  clear hr hC he
  go_enter Try.func18, Try.ntmps18
  go_wp2_with (fail)
  go_at_call 20
  (with_reducible refine (HC.out _ ?hb1).mono ?_)
  case hb1 => (repeat (first | exact HB.out | apply below_alloc))
  rintro e w1 ⟨rfl, hb⟩
  have P1 := Aside0.mk (P0.out.step hb)
  have HB1 := Aside0.mk ((by repeat (first | exact HB.out | apply below_alloc) : Below w.heap.size w _).trans (hb.mono (by simp; omega)))
  clear hb P0
  have lr_ : w.heap.size ≤ w.heap.size + 1 + 1 + 1 := by omega
  have g0_ : w1.cell? ⟨w.heap.size + 1 + 1 + 1, 0, none⟩ = some (.int .i64 0) := (blk_cell P1.out.r 0).trans rfl
  have k0_ := blk_frozen P1.out.r 0
  have g1_ : w1.cell? ⟨w.heap.size + 1 + 1 + 1, 1, none⟩ = some (.int .i64 0) := (blk_cell P1.out.r 1).trans rfl
  have k1_ := blk_frozen P1.out.r 1
  generalize w.heap.size + 1 + 1 + 1 = nr at *
  go_wp2
  refine bodyPost_ret (results_ct rfl _ _ nr 27 #[.int .i64 0, .int .i64 0] (0, 0) _ rfl (blk_put (cs := #[.int .i64 0, .int .i64 0]) (blk_put (cs := #[.int .i64 0, .int .i64 0]) P1.out.r 0 _ rfl) 1 _ rfl) Try.underlying27 rfl (by kernel_rfl)) rfl ?_
  exact ⟨rfl, below_set (below_set HB1.out lr_) lr_⟩
set_option maxHeartbeats 4000000 in
set_option maxRecDepth 100000 in
theorem Place_arg (k : Nat) (A0 : Option Addr) (c0 : Nat) (l0 : List S36) (mi g n : Int) (w : World) (hr : Kd.C k36 w A0 l0.length l0) (hc : l0.length ≤ c0) (hC : tempo_Check.f k l0 = some (n, 0)) (he : mi < 0 ∨ g < 1 ∨ 10000 < g) :
    Calls Try.prog 18 #[.slice A0 l0.length c0, .int .i64 mi, .int .i64 g] w fun e w' => e = .returned (.tuple #[.agg #[.int .i64 0, .int .i64 0], .int .i64 2]) ∧ Below w.heap.size w w' := by
  have HC := Aside0.mk (fun W (hb : Below w.heap.size w W) => tempo_Check.calls k A0 c0 l0 n 0 W (Kd.C_below hr hb) hc hC)
  have HB := Aside0.mk (Below.refl w.heap.size w)
  have P0 := Aside0.mk (P4.new w A0 l0.length c0 mi g)
  have hu27 := Try.underlying27
  clear hr hC
  go_enter Try.func18, Try.ntmps18
  go_wp2_with (fail)
  go_at_call 20
  (with_reducible refine (HC.out _ ?hb1).mono ?_)
  case hb1 => (repeat (first | exact HB.out | apply below_alloc))
  rintro e w1 ⟨rfl, hb⟩
  have P1 := Aside0.mk (P0.out.step hb)
  have HB1 := Aside0.mk ((by repeat (first | exact HB.out | apply below_alloc) : Below w.heap.size w _).trans (hb.mono (by simp; omega)))
  clear hb P0
  have lr_ : w.heap.size ≤ w.heap.size + 1 + 1 + 1 := by omega
  have g0_ : w1.cell? ⟨w.heap.size + 1 + 1 + 1, 0, none⟩ = some (.int .i64 0) := (blk_cell P1.out.r 0).trans rfl
  have k0_ := blk_frozen P1.out.r 0
  have g1_ : w1.cell? ⟨w.heap.size + 1 + 1 + 1, 1, none⟩ = some (.int .i64 0) := (blk_cell P1.out.r 1).trans rfl
  have k1_ := blk_frozen P1.out.r 1
  have m0_ : w1.cell? ⟨w.heap.size + 1, 0, none⟩ = some (.int .i64 mi) := (blk_cell P1.out.m 0).trans rfl
  have q0_ : w1.cell? ⟨w.heap.size + 1 + 1, 0, none⟩ = some (.int .i64 g) := (blk_cell P1.out.g 0).trans rfl
  generalize w.heap.size + 1 + 1 + 1 = nr at *
  generalize w.heap.size + 1 + 1 = ng at *
  by_cases h1 : mi < 0
  · have e1 : decide (mi < 0) = true := decide_eq_true h1
    clear he h1
    go_wp2
    refine bodyPost_ret (results_ct rfl _ _ nr 27 #[.int .i64 0, .int .i64 0] (0, 0) _ rfl (blk_put (cs := #[.int .i64 0, .int .i64 0]) (blk_put (cs := #[.int .i64 0, .int .i64 0]) P1.out.r 0 _ rfl) 1 _ rfl) Try.underlying27 rfl (by kernel_rfl)) rfl ?_
    exact ⟨rfl, below_set (below_set HB1.out lr_) lr_⟩
  · have e1 : decide (mi < 0) = false := decide_eq_false h1
    by_cases h2 : g < 1
    · have e2 : decide (g < 1) = true := decide_eq_true h2
      clear he h1 h2
      go_wp2
      refine bodyPost_ret (results_ct rfl _ _ nr 27 #[.int .i64 0, .int .i64 0] (0, 0) _ rfl (blk_put (cs := #[.int .i64 0, .int .i64 0]) (blk_put (cs := #[.int .i64 0, .int .i64 0]) P1.out.r 0 _ rfl) 1 _ rfl) Try.underlying27 rfl (by kernel_rfl)) rfl ?_
      exact ⟨rfl, below_set (below_set HB1.out lr_) lr_⟩
    · have e2 : decide (g < 1) = false := decide_eq_false h2
      have e3 : decide (10000 < g) = true := decide_eq_true (by omega)
      clear he h1 h2
      go_wp2
      refine bodyPost_ret (results_ct rfl _ _ nr 27 #[.int .i64 0, .int .i64 0] (0, 0) _ rfl (blk_put (cs := #[.int .i64 0, .int .i64 0]) (blk_put (cs := #[.int .i64 0, .int .i64 0]) P1.out.r 0 _ rfl) 1 _ rfl) Try.underlying27 rfl (by kernel_rfl)) rfl ?_
      exact ⟨rfl, below_set (below_set HB1.out lr_) lr_⟩
set_option maxHeartbeats 4000000 in
set_option maxRecDepth 100000 in
theorem Place_go (k : Nat) (A0 : Option Addr) (c0 : Nat) (l0 : List S36) (mi g n r1 r2 r3 : Int) (w : World) (hr : Kd.C k36 w A0 l0.length l0) (hc : l0.length ≤ c0) (hlen : l0.length ≤ 999) (hC : tempo_Check.f k l0 = some (n, 0)) (h1 : ¬ mi < 0) (h2 : ¬ g < 1) (h3 : ¬ 10000 < g)
    (hall : (l0.all fun d => d.f0.f1 != 0) = true) (h : (if 0 ≤ idxI (oddB g) l0 then some (0, 0, 2) else (searchO (lateO k l0 g mi) 64 0 (100000 * g + 1)).bind fun r => ratio_Of.f (wrap64 (r - 1)) g) = some (r1, r2, r3)) :
    Calls Try.prog 18 #[.slice A0 l0.length c0, .int .i64 mi, .int .i64 g] w fun e w' => e = .returned (.tuple #[.agg #[.int .i64 r1, .int .i64 r2], .int .i64 r3]) ∧ Below w.heap.size w w' := by
  have HC := Aside0.mk (fun W (hb : Below w.heap.size w W) => tempo_Check.calls k A0 c0 l0 n 0 W (Kd.C_below hr hb) hc hC)
  have HB := Aside0.mk (Below.refl w.heap.size w)
  have P0 := Aside0.mk (P4.new w A0 l0.length c0 mi g)
  have HX := Aside0.mk (fun (W : World) (hb : Below w.heap.size w W) (B : Nat) (hg : W.heap[B]? = some (.cells #[.int .i64 g] 3 (0, 0))) =>
    Contains_any 32 (enters_of Try.func32 (by kernel_rfl) rfl) #[.pointer (some ⟨B, 0, none⟩)] (oddB g) A0 c0 l0 W (Kd.C_below hr hb) hc (by omega)
      (fun j hj W2 hb2 => odd_any B g (rd_T36 l0 j).f0.f0 (rd_T36 l0 j).f0.f1 (rd_T36 l0 j).f1 (rd_T36 l0 j).f2 W2 (Nat.lt_of_lt_of_le (blk_lt hg) hb2.size) ((hb2.cell (p := ⟨B, 0, none⟩) (blk_lt hg)).trans ((blk_cell hg 0).trans rfl))
        (by
          have hm := List.all_eq_true.mp hall (rd_T36 l0 j) (by simp [rd_T36, List.getD, hj])
          simpa using hm)))
  have HRW := Aside0.mk (fun (W : World) (hb : Below w.heap.size w W) => Kd.C_below hr hb)
  have HH := Aside0.mk h
  have hu27 := Try.underlying27
  have hu61 := Try.underlying61
  clear hr hC hall h
  go_enter Try.func18, Try.ntmps18
  go_wp2_with (fail)
  go_at_call 20
  (with_reducible refine (HC.out _ ?hb1).mono ?_)
  case hb1 => (repeat (first | exact HB.out | apply below_alloc))
  rintro e w1 ⟨rfl, hb⟩
  have P1 := Aside0.mk (P0.out.step hb)
  have HB1 := Aside0.mk ((by repeat (first | exact HB.out | apply below_alloc) : Below w.heap.size w _).trans (hb.mono (by simp; omega)))
  clear hb P0 HC
  have lr_ : w.heap.size ≤ w.heap.size + 1 + 1 + 1 := by omega
  have m0_ : w1.cell? ⟨w.heap.size + 1, 0, none⟩ = some (.int .i64 mi) := (blk_cell P1.out.m 0).trans rfl
  have q0_ : w1.cell? ⟨w.heap.size + 1 + 1, 0, none⟩ = some (.int .i64 g) := (blk_cell P1.out.g 0).trans rfl
  have l0_ : w1.cell? ⟨w.heap.size, 0, none⟩ = some (.slice A0 l0.length c0) := (blk_cell P1.out.l 0).trans rfl
  have d1 : w.heap.size + 1 ≠ w.heap.size + 1 + 1 + 1 := by omega
  have d2 : w.heap.size + 1 + 1 ≠ w.heap.size + 1 + 1 + 1 := by omega
  have d3 : w.heap.size ≠ w.heap.size + 1 + 1 + 1 := by omega
  have d4 : w.heap.size + 1 + 1 + 1 ≠ w.heap.size + 1 := by omega
  have d5 : w.heap.size + 1 + 1 + 1 ≠ w.heap.size + 1 + 1 := by omega
  have d6 : w.heap.size + 1 + 1 + 1 ≠ w.heap.size := by omega
  generalize w.heap.size + 1 + 1 + 1 = nr at *
  generalize w.heap.size + 1 + 1 = ng at *
  generalize w.heap.size + 1 = nm at *
  generalize hw : w.heap.size = nl at *
  have e1 : decide (mi < 0) = false := decide_eq_false (by omega)
  have e2 : decide (g < 1) = false := decide_eq_false (by omega)
  have e3 : decide (10000 < g) = false := decide_eq_false (by omega)
  go_wp2_with (fail)
  go_at_call 31
  (with_reducible refine (HX.out _ HB1.out ng P1.out.g).mono ?_)
  rintro e w2 ⟨rfl, hb⟩
  have P2 := Aside0.mk (P1.out.step hb)
  have HB2 := Aside0.mk (HB1.out.trans (hb.mono (by rw [← hw]; exact HB1.out.size)))
  clear hb P1 m0_ q0_ l0_ HX
  have g0_ : w2.cell? ⟨nr, 0, none⟩ = some (.int .i64 0) := (blk_cell P2.out.r 0).trans rfl
  have k0_ := blk_frozen P2.out.r 0
  have g1_ : w2.cell? ⟨nr, 1, none⟩ = some (.int .i64 0) := (blk_cell P2.out.r 1).trans rfl
  have k1_ := blk_frozen P2.out.r 1
  have q0_ : w2.cell? ⟨ng, 0, none⟩ = some (.int .i64 g) := (blk_cell P2.out.g 0).trans rfl
  have hq := HH.out
  clear HH
  by_cases ho : 0 ≤ idxI (oddB g) l0
  · rw [if_pos ho] at hq
    simp only [Option.some.injEq, Prod.mk.injEq] at hq
    obtain ⟨rfl, rfl, rfl⟩ := hq
    have e4 : decide (0 ≤ idxI (oddB g) l0) = true := decide_eq_true ho
    rw [e4]
    go_wp2
    refine bodyPost_ret (results_ct rfl _ _ nr 27 #[.int .i64 0, .int .i64 0] (0, 0) _ rfl (blk_put (cs := #[.int .i64 0, .int .i64 0]) (blk_put (cs := #[.int .i64 0, .int .i64 0]) P2.out.r 0 _ rfl) 1 _ rfl) Try.underlying27 rfl (by kernel_rfl)) rfl ?_
    exact ⟨rfl, by rw [hw]; exact (HB2.out.setCell lr_ _).setCell lr_ _⟩
  · rw [if_neg ho] at hq
    obtain ⟨t, hS, hO⟩ := Option.bind_eq_some_iff.mp hq
    have e4 : decide (0 ≤ idxI (oddB g) l0) = false := decide_eq_false ho
    rw [e4]
    clear e4 ho hq
    have HO := Aside0.mk (fun W => ratio_Of.calls (wrap64 (t - 1)) g r1 r2 r3 W hO)
    have HF := Aside0.mk (fun (W : World) (hP : P4 W nl nm ng nr A0 l0.length c0 mi g) (hb : Below nl w W) =>
      first_any 33 (enters_of Try.func33 (by kernel_rfl) rfl) #[.pointer (some ⟨ng, 0, none⟩), .pointer (some ⟨nl, 0, none⟩), .pointer (some ⟨nm, 0, none⟩)] (lateO k l0 g mi) (100000 * g + 1) t W (by omega) (by omega)
        (fun x b W2 hb2 hx => late_any k ng nl nm A0 c0 l0 g mi x b W2 (blk_below hP.g hb2) (blk_below hP.l hb2) (blk_below hP.m hb2) (HRW.out W2 (hb.trans (hb2.mono (by rw [← hw]; exact (hw ▸ hb : Below w.heap.size w W).size)))) hc hx) hS)
    clear hS hO
    have lg := blk_lt P2.out.g
    have lr := blk_lt P2.out.r
    have c1 : w2.heap.size ≠ ng := by omega
    have c2 : w2.heap.size ≠ nr := by omega
    have c3 : ng ≠ w2.heap.size := by omega
    have c4 : nr ≠ w2.heap.size := by omega
    have x1 : (w2.alloc (.cells #[.int .i64 (100000 * g + 1), .nilFunc] 61)).cell? ⟨w2.heap.size, 1, none⟩ = some .nilFunc := (blk_cell (blk_new w2 _) 1).trans rfl
    have x2 := blk_frozen (blk_new w2 (.cells #[.int .i64 (100000 * g + 1), .nilFunc] 61)) 1
    go_upto_region 7 with (fail)
    clear g0_ k0_ g1_ k1_ q0_ x1 x2 lg lr
    have BF0 := blk_new w2 (.cells #[.int .i64 (100000 * g + 1), .func (.func 33) #[] #[.pointer (some ⟨ng, 0, none⟩), .pointer (some ⟨nl, 0, none⟩), .pointer (some ⟨nm, 0, none⟩)]] 61)
    have P3 : P4 (w2.alloc (.cells #[.int .i64 (100000 * g + 1), .func (.func 33) #[] #[.pointer (some ⟨ng, 0, none⟩), .pointer (some ⟨nl, 0, none⟩), .pointer (some ⟨nm, 0, none⟩)]] 61)) nl nm ng nr A0 l0.length c0 mi g := P2.out.step (below_alloc (Below.refl _ _) _)
    have HB3 := Aside0.mk (HB2.out.trans ((below_alloc (Below.refl w2.heap.size w2) (.cells #[.int .i64 (100000 * g + 1), .func (.func 33) #[] #[.pointer (some ⟨ng, 0, none⟩), .pointer (some ⟨nl, 0, none⟩), .pointer (some ⟨nm, 0, none⟩)]] 61)).mono (by have := (hw ▸ HB2.out : Below w.heap.size w w2).size; omega)))
    clear P2 HB2
    generalize (w2.alloc (.cells #[.int .i64 (100000 * g + 1), .func (.func 33) #[] #[.pointer (some ⟨ng, 0, none⟩), .pointer (some ⟨nl, 0, none⟩), .pointer (some ⟨nm, 0, none⟩)]] 61)) = W3 at *
    generalize w2.heap.size = nf at *
    have P3d := P3.step (below_drew1 (Below.refl W3.heap.size W3))
    have BF1 := blk_drew BF0
    have f0_ : W3.drew.cell? ⟨nf, 0, none⟩ = some (.int .i64 (100000 * g + 1)) := (blk_cell BF1 0).trans rfl
    have f1_ : W3.drew.cell? ⟨nf, 1, none⟩ = some (.func (.func 33) #[] #[.pointer (some ⟨ng, 0, none⟩), .pointer (some ⟨nl, 0, none⟩), .pointer (some ⟨nm, 0, none⟩)]) := (blk_cell BF1 1).trans rfl
    have q0_ : W3.drew.cell? ⟨ng, 0, none⟩ = some (.int .i64 g) := (blk_cell P3d.g 0).trans rfl
    have HBd := Aside0.mk (below_drew1 (hw ▸ HB3.out : Below w.heap.size w W3))
    rw [hw] at HBd
    replace P3d := Aside0.mk P3d
    replace BF1 := Aside0.mk BF1
    clear BF0 P3 HB3
    have hwt : IntKind.i64.wrap (t - 1) = wrap64 (t - 1) := by rw [IntKind.wrap_i64]; unfold wrap64; omega
    go_region_held3 (fun w' => w'.cell? ⟨nf, 0, none⟩ = some (.int .i64 (100000 * g + 1)) ∧ w'.cell? ⟨nf, 1, none⟩ = some (.func (.func 33) #[] #[.pointer (some ⟨ng, 0, none⟩), .pointer (some ⟨nl, 0, none⟩), .pointer (some ⟨nm, 0, none⟩)]) ∧ w'.cell? ⟨ng, 0, none⟩ = some (.int .i64 g)) (first | go_keep | (go_split_ands <;> assumption)) ((first | (go_at_call 35; (with_reducible refine (HF.out _ P3d.out HBd.out).mono ?_); rintro e w4 ⟨rfl, hb4⟩; have P5 := Aside0.mk (P3d.out.step hb4); have BF4 := Aside0.mk (blk_below BF1.out hb4); have HB4 := Aside0.mk hb4; have v0_ : w4.cell? ⟨nf, 0, none⟩ = some (.int .i64 (100000 * g + 1)) := (blk_cell BF4.out 0).trans rfl; have v1_ : w4.cell? ⟨nf, 1, none⟩ = some (.func (.func 33) #[] #[.pointer (some ⟨ng, 0, none⟩), .pointer (some ⟨nl, 0, none⟩), .pointer (some ⟨nm, 0, none⟩)]) := (blk_cell BF4.out 1).trans rfl; have v2_ : w4.cell? ⟨ng, 0, none⟩ = some (.int .i64 g) := (blk_cell P5.out.g 0).trans rfl; clear hb4) | (go_at_call 34; (with_reducible refine (HO.out _).mono ?_); rintro e w5 ⟨rfl, hb5⟩; have P6 := Aside0.mk (P5.out.step hb5); have BF5 := Aside0.mk (blk_below BF4.out hb5); have HB5 := Aside0.mk hb5; have v3_ : w5.cell? ⟨nf, 0, none⟩ = some (.int .i64 (100000 * g + 1)) := (blk_cell BF5.out 0).trans rfl; have v4_ : w5.cell? ⟨nf, 1, none⟩ = some (.func (.func 33) #[] #[.pointer (some ⟨ng, 0, none⟩), .pointer (some ⟨nl, 0, none⟩), .pointer (some ⟨nm, 0, none⟩)]) := (blk_cell BF5.out 1).trans rfl; have v5_ : w5.cell? ⟨ng, 0, none⟩ = some (.int .i64 g) := (blk_cell P6.out.g 0).trans rfl; have g0_ : w5.cell? ⟨nr, 0, none⟩ = some (.int .i64 0) := (blk_cell P6.out.r 0).trans rfl; have k0_ := blk_frozen P6.out.r 0; have g1_ : w5.cell? ⟨nr, 1, none⟩ = some (.int .i64 0) := (blk_cell P6.out.r 1).trans rfl; have k1_ := blk_frozen P6.out.r 1; clear hb5)))
    all_goals go_wp2
    all_goals
      have hbw := HB5.out
      have hb1 : Below w.heap.size w w4 := ((by rw [hw]; exact HBd.out : Below w.heap.size w W3.drew).trans (HB4.out.mono (hw ▸ HBd.out : Below w.heap.size w W3.drew).size))
      have hb2 := hb1.trans (hbw.mono hb1.size)
      rw [hw] at hb2
      refine bodyPost_ret (results_ct rfl _ _ nr 27 #[.int .i64 r1, .int .i64 r2] (0, 0) _ rfl (blk_put (cs := #[.int .i64 r1, .int .i64 0]) (blk_put (cs := #[.int .i64 0, .int .i64 0]) P6.out.r 0 _ rfl) 1 _ rfl) Try.underlying27 rfl (by kernel_rfl)) rfl ?_
      exact ⟨rfl, by rw [hw]; exact (hb2.setCell lr_ _).setCell lr_ _⟩
set_option maxHeartbeats 2000000 in
theorem tempo_Place.calls (k : Nat) (A0 : Option Addr) (c0 : Nat) (l0 : List S36) (mi g r1 r2 r3 : Int) (w : World) (hr : Kd.C k36 w A0 l0.length l0) (hc : l0.length ≤ c0) (h : tempo_Place.f k l0 mi g = some (r1, r2, r3)) :
    Calls Try.prog 18 #[.slice A0 l0.length c0, .int .i64 mi, .int .i64 g] w fun e w' => e = .returned (.tuple #[.agg #[.int .i64 r1, .int .i64 r2], .int .i64 r3]) ∧ Below w.heap.size w w' := by
  unfold tempo_Place.f at h
  split at h
  next hlen =>
    obtain ⟨⟨n, er⟩, hC, h⟩ := Option.bind_eq_some_iff.mp h
    by_cases he : er = 0
    · subst he
      rw [if_pos rfl] at h
      by_cases h1 : mi < 0
      · rw [if_pos h1] at h
        simp only [Option.some.injEq, Prod.mk.injEq] at h
        obtain ⟨rfl, rfl, rfl⟩ := h
        exact Place_arg k A0 c0 l0 mi g n w hr hc hC (.inl h1)
      · rw [if_neg h1] at h
        by_cases h2 : g < 1
        · rw [if_pos h2] at h
          simp only [Option.some.injEq, Prod.mk.injEq] at h
          obtain ⟨rfl, rfl, rfl⟩ := h
          exact Place_arg k A0 c0 l0 mi g n w hr hc hC (.inr (.inl h2))
        · rw [if_neg h2] at h
          by_cases h3 : 10000 < g
          · rw [if_pos h3] at h
            simp only [Option.some.injEq, Prod.mk.injEq] at h
            obtain ⟨rfl, rfl, rfl⟩ := h
            exact Place_arg k A0 c0 l0 mi g n w hr hc hC (.inr (.inr h3))
          · rw [if_neg h3] at h
            by_cases h4 : (l0.all fun d => d.f0.f1 != 0) = true
            · rw [if_pos h4] at h
              exact Place_go k A0 c0 l0 mi g n r1 r2 r3 w hr hc hlen hC h1 h2 h3 h4 h
            · rw [if_neg h4] at h; cases h
    · rw [if_neg he] at h
      simp only [Option.some.injEq, Prod.mk.injEq] at h
      obtain ⟨rfl, rfl, rfl⟩ := h
      exact Place_err k A0 c0 l0 mi g n _ w hr hc hC he
  next => cases h

/-! ### partitalaw11_awake: function 11 -/
/-- The chapter's own examples: they are as the document says. -/
def partitalaw11_awake.f (_k : Nat) : Option Bool := some true
theorem partitalaw11_awake.mono : ∀ k, LeO (partitalaw11_awake.f k) (partitalaw11_awake.f (k + 1)) := fun _ => LeO.refl _
def awL : List S36 := [⟨⟨0, 1⟩, 600000, true⟩, ⟨⟨1, 1⟩, 400000, false⟩]
def awM : List S36 := [⟨⟨0, 1⟩, 600000, true⟩, ⟨⟨1, 1⟩, 400000, false⟩, ⟨⟨1, 1⟩, 400000, false⟩]
theorem aw1 : tempo_Micros.f 40 [] 1 4 = some (500000, 0) := by decide +kernel
theorem aw2 : tempo_Rate.f 40 awL 1 2 = some (500000, 0) := by decide +kernel
theorem aw3 : tempo_Micros.f 40 awL 1 2 = some (1100000, 0) := by decide +kernel
theorem aw4 : tempo_Micros.f 40 awL 2 1 = some (3600000, 0) := by decide +kernel
theorem aw5 : tempo_Place.f 40 awL 1100000 16 = some (1, 2, 0) := by decide +kernel
theorem aw6 : tempo_Place.f 40 awL 1099999 16 = some (7, 16, 0) := by decide +kernel
theorem aw7 : tempo_Check.f 40 awM = some (2, 110) := by decide +kernel
theorem aw8 : tempo_Rate.f 40 awL (-1) 1 = some (0, 2) := by decide +kernel
theorem aw9 : tempo_Check.f 40 awL = some (0, 0) := by decide +kernel
theorem awR (W : World) : Kd.R k36 36 (W.alloc (.cells #[.int .i64 0, .int .i64 1, .int .i64 600000, .bool true, .int .i64 1, .int .i64 1, .int .i64 400000, .bool false] 36)) W.heap.size (fun _ => True) (.slice (some ⟨W.heap.size, 0, none⟩) 2 2) awL := by
  refine ⟨fun _ _ => trivial, [.int .i64 0, .int .i64 1, .int .i64 600000, .bool true, .int .i64 1, .int .i64 1, .int .i64 400000, .bool false], ?_, ?_⟩
  · have h2 := World.ownsRow_lit (base := W.heap.size) (e := 36) (size := 4) W #[.int .i64 0, .int .i64 1, .int .i64 600000, .bool true, .int .i64 1, .int .i64 1, .int .i64 400000, .bool false] 2 (Nat.le_refl _) (by simp [maxLen]) (by simp)
    exact h2
  · refine ⟨rfl, fun j p hp => ?_⟩
    match j, hp with
    | 0, hp => obtain rfl := Option.some.inj hp; exact k36_mkM _ _ _ ⟨⟨0, 1⟩, 600000, true⟩
    | 1, hp => obtain rfl := Option.some.inj hp; exact k36_mkM _ _ _ ⟨⟨1, 1⟩, 400000, false⟩
    | j + 2, hp => simp [awL] at hp
theorem awC (w W : World) (v : Value) (h : w.ownsRow W.heap.size 36 4 v 3 [.int .i64 0, .int .i64 1, .int .i64 600000, .bool true, .int .i64 1, .int .i64 1, .int .i64 400000, .bool false, .int .i64 1, .int .i64 1, .int .i64 400000, .bool false]) : Kd.R k36 36 w W.heap.size (fun _ => True) v awM := by
  refine ⟨fun _ _ => trivial, [.int .i64 0, .int .i64 1, .int .i64 600000, .bool true, .int .i64 1, .int .i64 1, .int .i64 400000, .bool false, .int .i64 1, .int .i64 1, .int .i64 400000, .bool false], h, rfl, fun j p hp => ?_⟩
  match j, hp with
  | 0, hp => obtain rfl := Option.some.inj hp; exact k36_mkM _ _ _ ⟨⟨0, 1⟩, 600000, true⟩
  | 1, hp => obtain rfl := Option.some.inj hp; exact k36_mkM _ _ _ ⟨⟨1, 1⟩, 400000, false⟩
  | 2, hp => obtain rfl := Option.some.inj hp; exact k36_mkM _ _ _ ⟨⟨1, 1⟩, 400000, false⟩
  | j + 3, hp => simp [awM] at hp
theorem awB {w w' : World} (h : w.grownBy w' none) : Below w.heap.size w w' := ⟨h.os, h.tape, h.output, h.size, fun i hi => h.block i hi (by simp)⟩
set_option maxHeartbeats 4000000 in
set_option maxRecDepth 100000 in
theorem partitalaw11_awake.calls (k : Nat) (r : Bool) (w : World) (h : partitalaw11_awake.f k = some r) :
    Calls Try.prog 11 #[] w fun e w' => e = .returned (.bool r) ∧ Below w.heap.size w w' := by
  obtain rfl := Option.some.inj h
  clear h
  have hu27 := Try.underlying27
  have hu36 := Try.underlying36
  have HB := Aside0.mk (Below.refl w.heap.size w)
  have hR := awR w
  have hC := (Kd.R_reads' hR).2.2
  have hbl := blk_new w (.cells #[.int .i64 0, .int .i64 1, .int .i64 600000, .bool true, .int .i64 1, .int .i64 1, .int .i64 400000, .bool false] 36)
  have HC := Aside0.mk (fun W (hb : Below (w.heap.size + 1) (w.alloc (.cells #[.int .i64 0, .int .i64 1, .int .i64 600000, .bool true, .int .i64 1, .int .i64 1, .int .i64 400000, .bool false] 36)) W) => Kd.C_below hC (by rw [World.size_alloc]; exact hb))
  have HL := Aside0.mk (fun W (hb : Below (w.heap.size + 1) (w.alloc (.cells #[.int .i64 0, .int .i64 1, .int .i64 600000, .bool true, .int .i64 1, .int .i64 1, .int .i64 400000, .bool false] 36)) W) => (hb.block w.heap.size (by omega)).trans hbl)
  have HA := Aside0.mk (below_alloc HB.out (.cells #[.int .i64 0, .int .i64 1, .int .i64 600000, .bool true, .int .i64 1, .int .i64 1, .int .i64 400000, .bool false] 36))
  clear hR hC hbl
  go_enter Try.func11, Try.ntmps11
  go_upto_region 2 with (fail)
  generalize hw1 : (w.alloc (.cells #[.int .i64 0, .int .i64 1, .int .i64 600000, .bool true, .int .i64 1, .int .i64 1, .int .i64 400000, .bool false] 36)) = w1 at *
  have H1 := Aside0.mk (Below.refl (w.heap.size + 1) w1)
  have s1 : w1.heap.size = w.heap.size + 1 := by rw [← hw1, World.size_alloc]
  clear hw1
  generalize hn : w.heap.size = nb at *
  clear HB
  go_wp2_with (fail)
  go_at_call 15
  refine (tempo_Micros.calls 40 _ _ [] 1 4 _ _ _ (Kd.C_nil _ _) (Nat.le_refl _) aw1).mono ?_
  rintro e w2 ⟨rfl, hb⟩
  have H2 := Aside0.mk (H1.out.trans (hb.mono (by have := H1.out.size; omega)))
  clear hb
  go_wp2_with (fail)
  go_at_call 17
  refine (tempo_Rate.calls 40 _ _ awL 1 2 _ _ _ (HC.out _ H2.out) (Nat.le_refl _) aw2).mono ?_
  rintro e w3 ⟨rfl, hb⟩
  have H3 := Aside0.mk (H2.out.trans (hb.mono (by have := H2.out.size; omega)))
  clear hb
  go_wp2_with (fail)
  go_at_call 15
  refine (tempo_Micros.calls 40 _ _ awL 1 2 _ _ _ (HC.out _ H3.out) (Nat.le_refl _) aw3).mono ?_
  rintro e w4 ⟨rfl, hb⟩
  have H4 := Aside0.mk (H3.out.trans (hb.mono (by have := H3.out.size; omega)))
  clear hb
  go_wp2_with (fail)
  go_at_call 15
  refine (tempo_Micros.calls 40 _ _ awL 2 1 _ _ _ (HC.out _ H4.out) (Nat.le_refl _) aw4).mono ?_
  rintro e w5 ⟨rfl, hb⟩
  have H5 := Aside0.mk (H4.out.trans (hb.mono (by have := H4.out.size; omega)))
  clear hb
  go_wp2_with (fail)
  go_at_call 18
  refine (tempo_Place.calls 40 _ _ awL 1100000 16 _ _ _ _ (HC.out _ H5.out) (Nat.le_refl _) aw5).mono ?_
  rintro e w6 ⟨rfl, hb⟩
  have H6 := Aside0.mk (H5.out.trans (hb.mono (by have := H5.out.size; omega)))
  clear hb
  go_upto_region 7 with (fail)
  have HK := Aside0.mk (H6.out.alloc (by have := H6.out.size; omega) (.cells #[.int .i64 1, .int .i64 2] 27))
  have P1 := Aside0.mk (blk_new w6 (.cells #[.int .i64 1, .int .i64 2] 27))
  have hs := World.size_alloc w6 (.cells #[.int .i64 1, .int .i64 2] 27)
  have l1 := H6.out.size
  generalize (w6.alloc (.cells #[.int .i64 1, .int .i64 2] 27)) = w7 at *
  generalize w6.heap.size = n1 at *
  have H7 := HK
  clear HK
  go_wp2_with (fail)
  go_at_call 18
  refine (tempo_Place.calls 40 _ _ awL 1099999 16 _ _ _ _ (HC.out _ H7.out) (Nat.le_refl _) aw6).mono ?_
  rintro e w8 ⟨rfl, hb⟩
  have H8 := Aside0.mk (H7.out.trans (hb.mono (by have := H7.out.size; omega)))
  have P1 := Aside0.mk (blk_below P1.out hb)
  clear hb
  go_upto_region 8 with (fail)
  have HK := Aside0.mk (H8.out.alloc (by have := H8.out.size; omega) (.cells #[.int .i64 7, .int .i64 16] 27))
  have P2 := Aside0.mk (blk_new w8 (.cells #[.int .i64 7, .int .i64 16] 27))
  have P1 := Aside0.mk (blk_alloc P1.out (.cells #[.int .i64 7, .int .i64 16] 27))
  have hs2 := World.size_alloc w8 (.cells #[.int .i64 7, .int .i64 16] 27)
  generalize (w8.alloc (.cells #[.int .i64 7, .int .i64 16] 27)) = w9 at *
  generalize w8.heap.size = n2 at *
  have H9 := HK
  clear HK
  have BL := Aside0.mk (HL.out _ H9.out)
  have c4 : w9.cell? ⟨nb, 4, none⟩ = some (.int .i64 1) := (blk_cell BL.out 4).trans rfl
  have c5 : w9.cell? ⟨nb, 5, none⟩ = some (.int .i64 1) := (blk_cell BL.out 5).trans rfl
  have c6 : w9.cell? ⟨nb, 6, none⟩ = some (.int .i64 400000) := (blk_cell BL.out 6).trans rfl
  have c7 : w9.cell? ⟨nb, 7, none⟩ = some (.bool false) := (blk_cell BL.out 7).trans rfl
  obtain ⟨i0, hi, hzz⟩ := Option.map_eq_some_iff.1 info36
  simp only [Prod.mk.injEq] at hzz
  obtain ⟨hz0, hz1, hz2⟩ := hzz
  have b0 : w9.cell? ⟨nb, 0, none⟩ = some (.int .i64 0) := (blk_cell BL.out 0).trans rfl
  have hlz : nb < w9.heap.size := blk_lt BL.out
  have hKB := fun (W : World) (hb : Below w9.heap.size w9 W) => (hb.block nb hlz).trans BL.out
  have hK1 := fun (W : World) (hb : Below w9.heap.size w9 W) => (hb.block n1 (blk_lt P1.out)).trans P1.out
  have hK2 := fun (W : World) (hb : Below w9.heap.size w9 W) => (hb.block n2 (blk_lt P2.out)).trans P2.out
  have HKA := Aside0.mk (And.intro hKB (And.intro hK1 hK2))
  clear b0 hKB hK1 hK2
  have BA := Aside0.mk (blk_alloc BL.out (.cells #[.int .i64 1, .int .i64 1, .int .i64 400000, .bool false] 36))
  have BN := Aside0.mk (blk_new w9 (.cells #[.int .i64 1, .int .i64 1, .int .i64 400000, .bool false] 36))
  have HAL := Aside0.mk (below_alloc (Below.refl w9.heap.size w9) (.cells #[.int .i64 1, .int .i64 1, .int .i64 400000, .bool false] 36))
  go_wp2_with ((with_reducible refine gate_builtin (b := .append) (xs := #[.tmp 59, .tmp 63]) rfl ?_); at_builtin; refine wpList_append_grows _ rfl (.tmp 59) (.tmp 63) 22 rfl 36 i0 (.agg #[(.int .i64 0), (.int .i64 0), (.int .i64 0), (.bool false)]) 4 32 Try.underlying22 hi hz0 hz1 hz2 rfl (by decide) (some ⟨nb, 0, none⟩) 2 2 [.int .i64 0, .int .i64 1, .int .i64 600000, .bool true, .int .i64 1, .int .i64 1, .int .i64 400000, .bool false] (by first | rfl | (go_simp; done) | (go_simp; rfl)) (by simp) (by rfl) ?holds ⟨w9.heap.size, 0, none⟩ 1 1 [.int .i64 1, .int .i64 1, .int .i64 400000, .bool false] (by first | rfl | (go_simp; done) | (go_simp; rfl)) (by rfl) ?hc1 (by simp [Value.oneCell']) (by decide) (by simp [maxLen]) (by decide) ?_; (case holds => (intro b hb j u hj; obtain rfl := Option.some.inj hb; rw [Addr.add_lit]; exact (blk_cell BA.out (0 + j)).trans (by rw [Nat.zero_add]; simpa using hj))); (case hc1 => (intro j u hj; rw [Addr.add_lit]; exact (blk_cell BN.out (0 + j)).trans (by rw [Nat.zero_add]; simpa using hj))); intro v8 w8 hown hgr; have HG := Aside0.mk (HAL.out.trans ((awB hgr).mono HAL.out.size)); have HO := Aside0.mk (awC w8 _ v8 hown); clear hown hgr c4 c5 c6 c7; obtain ⟨A8, n8, rfl⟩ := Kd.R_slice HO.out)
  obtain ⟨_, hn8, hC8⟩ := Kd.R_reads' HO.out
  go_at_call 20
  refine (tempo_Check.calls 40 A8 n8 awM 2 110 w8 hC8 hn8 aw7).mono ?_
  rintro e w9 ⟨rfl, hb⟩
  have G9 := Aside0.mk (HG.out.trans (hb.mono HG.out.size))
  clear hb hn8 hC8 HO
  go_wp2_with (fail)
  go_at_call 17
  refine (tempo_Rate.calls 40 _ _ awL (-1) 1 _ _ _ (HC.out _ (H9.out.trans (G9.out.mono (by have := H9.out.size; omega)))) (Nat.le_refl _) aw8).mono ?_
  rintro e w10 ⟨rfl, hb⟩
  have G10 := Aside0.mk (G9.out.trans (hb.mono G9.out.size))
  clear hb
  go_wp2_with (fail)
  go_at_call 20
  refine (tempo_Check.calls 40 _ _ awL 0 0 _ (HC.out _ (H9.out.trans (G10.out.mono (by have := H9.out.size; omega)))) (Nat.le_refl _) aw9).mono ?_
  rintro e w11 ⟨rfl, hb⟩
  have G11 := Aside0.mk (G10.out.trans (hb.mono G10.out.size))
  clear hb
  have q1 := HKA.out.2.1 _ G11.out
  have q2 := HKA.out.2.2 _ G11.out
  have p10 : w11.cell? ⟨n1, 0, none⟩ = some (.int .i64 1) := (blk_cell q1 0).trans rfl
  have p11 : w11.cell? ⟨n1, 1, none⟩ = some (.int .i64 2) := (blk_cell q1 1).trans rfl
  have p20 : w11.cell? ⟨n2, 0, none⟩ = some (.int .i64 7) := (blk_cell q2 0).trans rfl
  have p21 : w11.cell? ⟨n2, 1, none⟩ = some (.int .i64 16) := (blk_cell q2 1).trans rfl
  go_wp2
  go_ret
  have hz := H9.out.trans (G11.out.mono (by have := H9.out.size; omega))
  rw [← hn] at HA hz ⊢
  exact ⟨rfl, HA.out.trans (hz.mono (by omega))⟩

/-! ### partitalaw11_pick: function 13 -/
def partitalaw11_pick.f (a0 : Int) (a1 : Int) : Option (Int) := if a0 < 0 then (if a1 = 0 then (none) else (some (Int.tmod (wrap64 (-(wrap64 (a0 + 1)))) a1))) else (if a1 = 0 then (none) else (some (Int.tmod a0 a1)))
set_option maxHeartbeats 8000000 in
set_option maxRecDepth 100000 in
theorem partitalaw11_pick.calls (a0 : Int) (a1 : Int) (r : Int) (w : World) (h : partitalaw11_pick.f a0 a1 = some r) :
    Calls Try.prog 13 #[.int .i64 a0, .int .i64 a1] w fun e w' => e = .returned (.int .i64 r) ∧ Drawn0 w w' := by
  have H : (if a0 < 0 then (if a1 = 0 then (none) else (some (Int.tmod (wrap64 (-(wrap64 (a0 + 1)))) a1))) else (if a1 = 0 then (none) else (some (Int.tmod a0 a1)))) = some r := h
  clear h
  by_cases c3 : a0 < 0
  · rw [if_pos c3] at H
    have c3b0 : decide (a0 < 0) = true := decide_eq_true c3
    clear c3
    by_cases c4 : a1 = 0
    · rw [if_pos c4] at H
      exact absurd H (by simp)
    · rw [if_neg c4] at H
      have c4b0 : (a1 == 0) = false := beq_eq_false_iff_ne.mpr c4
      have c4b1 : (a1 != 0) = true := bne_iff_ne.mpr c4
      obtain rfl := Option.some.inj H
      go_enter Try.func13, Try.ntmps13
      go_wp2
      go_ret
      exact ⟨by first | rfl | (simp; done) | (simp [*]; done), by repeat (first | exact Drawn0.refl _ | apply Drawn0.step)⟩
  · rw [if_neg c3] at H
    have c3b0 : decide (a0 < 0) = false := decide_eq_false c3
    clear c3
    by_cases c5 : a1 = 0
    · rw [if_pos c5] at H
      exact absurd H (by simp)
    · rw [if_neg c5] at H
      have c5b0 : (a1 == 0) = false := beq_eq_false_iff_ne.mpr c5
      have c5b1 : (a1 != 0) = true := bne_iff_ne.mpr c5
      obtain rfl := Option.some.inj H
      go_enter Try.func13, Try.ntmps13
      go_wp2
      go_ret
      exact ⟨by first | rfl | (simp; done) | (simp [*]; done), by repeat (first | exact Drawn0.refl _ | apply Drawn0.step)⟩

/-! ### partitaref01_size: function 22 -/
def partitaref01_size.f (a0 : Int) : Option (Int) := if a0 < 0 then (some (IntKind.u64.wrap ((IntKind.u64.wrap (wrap64 (-(wrap64 (a0 + 1))))) + 1))) else (some (IntKind.u64.wrap (a0)))
set_option maxHeartbeats 8000000 in
set_option maxRecDepth 100000 in
theorem partitaref01_size.calls (a0 : Int) (r : Int) (w : World) (h : partitaref01_size.f a0 = some r) :
    Calls Try.prog 22 #[.int .i64 a0] w fun e w' => e = .returned (.int .u64 r) ∧ Drawn0 w w' := by
  have H : (if a0 < 0 then (some (IntKind.u64.wrap ((IntKind.u64.wrap (wrap64 (-(wrap64 (a0 + 1))))) + 1))) else (some (IntKind.u64.wrap (a0)))) = some r := h
  clear h
  by_cases c2 : a0 < 0
  · rw [if_pos c2] at H
    have c2b0 : decide (a0 < 0) = true := decide_eq_true c2
    clear c2
    obtain rfl := Option.some.inj H
    go_enter Try.func22, Try.ntmps22
    go_wp2
    go_ret
    exact ⟨by first | rfl | (simp; done) | (simp [*]; done), by repeat (first | exact Drawn0.refl _ | apply Drawn0.step)⟩
  · rw [if_neg c2] at H
    have c2b0 : decide (a0 < 0) = false := decide_eq_false c2
    clear c2
    obtain rfl := Option.some.inj H
    go_enter Try.func22, Try.ntmps22
    go_wp2
    go_ret
    exact ⟨by first | rfl | (simp; done) | (simp [*]; done), by repeat (first | exact Drawn0.refl _ | apply Drawn0.step)⟩

/-! ### partitaref01_divisor: function 23 -/
theorem gcd_step_r {a b : Int} (ha : 0 ≤ a) (hb : 0 ≤ b) : (Int.gcd b (a % b) : Int) = Int.gcd a b := by
  obtain ⟨m, rfl⟩ := Int.eq_ofNat_of_zero_le ha
  obtain ⟨n, rfl⟩ := Int.eq_ofNat_of_zero_le hb
  rw [← Int.natCast_emod]
  simp only [Int.gcd_natCast_natCast]
  rw [Nat.gcd_comm m n, Nat.gcd_rec n m, Nat.gcd_comm]
def partitaref01_divisor.f (a0 a1 : Int) : Option Int := if 0 ≤ a0 ∧ 0 ≤ a1 then some (Int.gcd a0 a1) else none
set_option maxHeartbeats 400000 in
theorem partitaref01_divisor.calls (a0 a1 : Int) (r : Int) (w : World) (h : partitaref01_divisor.f a0 a1 = some r) :
    Calls Try.prog 23 #[.int .u64 a0, .int .u64 a1] w fun e w' => e = .returned (.int .u64 r) ∧ Drawn0 w w' := by
  unfold partitaref01_divisor.f at h
  split at h
  next hc =>
    obtain ⟨h0, h1⟩ := hc
    have HR := Aside0.mk (Option.some.inj h)
    clear h
    go_enter Try.func23, Try.ntmps23
    go_wp2
    go_loop [0, 1] (fun x y => ∃ a b : Int, x = .int .u64 a ∧ y = .int .u64 b ∧ 0 ≤ a ∧ 0 ≤ b ∧ Aside0 ((Int.gcd a b : Int) = r)) (fun _ y => (intOf y).toNat)
    case atStart => exact ⟨a0, a1, rfl, rfl, h0, h1, HR⟩
    case round =>
      obtain ⟨a, b, rfl, rfl, ha, hb, HT⟩ := hrel
      clear HR h0 h1
      by_cases c : b = 0
      · subst c
        have e : r = a := by rw [← HT.out]; simp; omega
        subst e
        clear HT
        go_wp2
        go_ret
        exact ⟨rfl, Drawn0.refl _⟩
      · have c0 : (b != 0) = true := bne_iff_ne.mpr c
        have hlt : a % b < b := Int.emod_lt_of_pos a (by omega)
        have hge : 0 ≤ a % b := Int.emod_nonneg _ c
        have HS := Aside0.mk ((gcd_step_r ha hb).trans HT.out)
        clear HT
        go_wp2
        go_round
        case rel => exact ⟨b, a % b, rfl, rfl, hb, hge, HS⟩
        case measure => simp [intOf]; omega
  next => cases h

/-! ### partitaref01_Of: function 14 -/
def partitaref01_Of.j0 : Nat → Int → Int → Int → Int → Bool → Option (Int × Int × Int)
  | 0, _, _, _, _, _ => none
  | k + 1, x0, x1, x6, x7, x30 => if x30 = true then (some (0, 0, 10)) else (if ((decide (x0 < 0)) != (decide (x1 < 0))) = true then (some (wrap64 (-(wrap64 (x6))), wrap64 (x7), 0)) else (some (wrap64 (x6), wrap64 (x7), 0)))
def partitaref01_Of.f (k : Nat) (a0 : Int) (a1 : Int) : Option (Int × Int × Int) := if a1 = 0 then (some (0, 0, 11)) else ((partitaref01_size.f a0).bind fun t126 => ((partitaref01_size.f a1).bind fun t127 => ((partitaref01_divisor.f t126 t127).bind fun t128 => (if t128 = 0 then (none) else (if (IntKind.u64.wrap (Int.tdiv t126 t128)) > 1000000000 then (partitaref01_Of.j0 k a0 a1 (IntKind.u64.wrap (Int.tdiv t126 t128)) (IntKind.u64.wrap (Int.tdiv t127 t128)) true) else (partitaref01_Of.j0 k a0 a1 (IntKind.u64.wrap (Int.tdiv t126 t128)) (IntKind.u64.wrap (Int.tdiv t127 t128)) (decide ((IntKind.u64.wrap (Int.tdiv t127 t128)) > 1000000000))))))))
theorem partitaref01_Of.mono_l : ∀ k, (∀ y0 y1 y2 y3 y4, LeO (partitaref01_Of.j0 k y0 y1 y2 y3 y4) (partitaref01_Of.j0 (k + 1) y0 y1 y2 y3 y4))
  | 0 => fun _ _ _ _ _ r h => by simp [partitaref01_Of.j0] at h
  | k + 1 => by
    have ih0 := partitaref01_Of.mono_l k
    · intro y0 y1 y2 y3 y4
      unfold partitaref01_Of.j0
      repeat' first
      | (with_reducible exact ih0 _ _ _ _ _)
      | (with_reducible exact LeO.refl _)
      | (with_reducible exact LeO.none _)
      | (with_reducible refine LeO.ite ?_ ?_)
      | (with_reducible refine LeO.bind ?_ (fun _ => ?_))
      | exact ih0 _ _ _ _ _
      | exact LeO.none _
      | refine LeO.ite ?_ ?_
      | refine LeO.bind ?_ (fun _ => ?_)
theorem partitaref01_Of.mono : ∀ a0 a1 k, LeO (partitaref01_Of.f k a0 a1) (partitaref01_Of.f (k + 1) a0 a1) := by
  intro a0 a1 k
  have ih0 := partitaref01_Of.mono_l k
  unfold partitaref01_Of.f
  repeat' first
      | (with_reducible exact ih0 _ _ _ _ _)
      | (with_reducible exact LeO.refl _)
      | (with_reducible exact LeO.none _)
      | (with_reducible refine LeO.ite ?_ ?_)
      | (with_reducible refine LeO.bind ?_ (fun _ => ?_))
      | exact ih0 _ _ _ _ _
      | exact LeO.none _
      | refine LeO.ite ?_ ?_
      | refine LeO.bind ?_ (fun _ => ?_)
set_option maxHeartbeats 8000000 in
set_option maxRecDepth 100000 in
theorem partitaref01_Of.calls (k : Nat) (a0 : Int) (a1 : Int) (r1 : Int) (r2 : Int) (r3 : Int) (w : World) (h : partitaref01_Of.f k a0 a1 = some (r1, r2, r3)) :
    Calls Try.prog 14 #[.int .i64 a0, .int .i64 a1] w fun e w' => e = .returned (.tuple #[.agg #[.int .i64 r1, .int .i64 r2], .int .i64 r3]) ∧ Below w.heap.size w w' := by
  have hu27 := Try.underlying27
  have HB := Aside0.mk (Below.refl w.heap.size w)
  have H : (if a1 = 0 then (some (0, 0, 11)) else ((partitaref01_size.f a0).bind fun t126 => ((partitaref01_size.f a1).bind fun t127 => ((partitaref01_divisor.f t126 t127).bind fun t128 => (if t128 = 0 then (none) else (if (IntKind.u64.wrap (Int.tdiv t126 t128)) > 1000000000 then (partitaref01_Of.j0 k a0 a1 (IntKind.u64.wrap (Int.tdiv t126 t128)) (IntKind.u64.wrap (Int.tdiv t127 t128)) true) else (partitaref01_Of.j0 k a0 a1 (IntKind.u64.wrap (Int.tdiv t126 t128)) (IntKind.u64.wrap (Int.tdiv t127 t128)) (decide ((IntKind.u64.wrap (Int.tdiv t127 t128)) > 1000000000))))))))) = some (r1, r2, r3) := h
  clear h
  by_cases c3 : a1 = 0
  · rw [if_pos c3] at H
    have c3b0 : (a1 == 0) = true := beq_iff_eq.mpr c3
    have c3b1 : (a1 != 0) = false := bne_eq_false_iff_eq.mpr c3
    clear c3
    simp only [Option.some.injEq, Prod.mk.injEq] at H
    obtain ⟨rfl, rfl, rfl⟩ := H
    go_enter Try.func14, Try.ntmps14
    go_wp2_with (first | ((with_reducible refine gate_dst (N := 4) rfl ?_); refine box_event ?hg (N := 4) ?hd (cs := #[.int .i64 0, .int .i64 0]) (t := 27) ?hr ?_; (case hd => rfl); (case hg => rfl); (case hr => first | (go_simp; done) | (go_simp; rfl)); intro gb125 hg w4 hbox hb; have n0_ := Aside0.mk (below_step (by repeat (first | (with_reducible first | exact HB.out | apply below_alloc | apply pw_below_drewN | apply below_drew1) | exact HB.out)) hb); have n1_ := Aside0.mk (hbox); have n2_ := Aside0.mk ((by rw [hg]; exact (below_size (by repeat (first | (with_reducible first | exact HB.out | apply below_alloc | apply pw_below_drewN | apply below_drew1) | exact HB.out))) : w.heap.size ≤ gb125)); have n3_ := Aside0.mk ((by rw [hg]; exact (below_size (by repeat (first | (with_reducible first | exact HB.out | apply below_alloc | apply pw_below_drewN | apply below_drew1) | exact HB.out))) : w.heap.size ≤ gb125)); clear HB; have HB := n0_; have BK125 := n1_; have GW125 := n2_; have GE125 := n3_; clear n0_ n1_ n2_ n3_; clear hb hbox hg; have hcz5_0 : w4.cell? ⟨gb125, 0, none⟩ = some (.int .i64 0) := (blk_cell BK125.out 0).trans rfl; have hcz5_1 : w4.cell? ⟨gb125, 1, none⟩ = some (.int .i64 0) := (blk_cell BK125.out 1).trans rfl; have hfz5_0 := blk_frozen BK125.out 0; have hfz5_1 := blk_frozen BK125.out 1))
    refine bodyPost_ret (results_ct rfl _ _ gb125 27 #[.int .i64 0, .int .i64 0] (0, 0) _ rfl (by (with_reducible repeat (first | refine blk_drewN ?_ _ | refine blk_drew ?_ | refine blk_alloc ?_ _)); refine blk_put (cs := #[.int .i64 0, .int .i64 0]) ?_ 1 _ rfl; (with_reducible repeat (first | refine blk_drewN ?_ _ | refine blk_drew ?_ | refine blk_alloc ?_ _)); refine blk_put (cs := #[.int .i64 0, .int .i64 0]) ?_ 0 _ rfl; (with_reducible repeat (first | refine blk_drewN ?_ _ | refine blk_drew ?_ | refine blk_alloc ?_ _)); exact BK125.out) Try.underlying27 rfl (by kernel_rfl)) rfl ?_
    exact ⟨by first | rfl | (simp [errW_none, errW_some] <;> rfl) | (simp [*, errW_none, errW_some] <;> rfl), by repeat (first | (with_reducible first | exact HB.out | apply below_alloc | apply pw_below_drewN | apply below_drew1 | refine below_set ?_ GE125.out) | exact HB.out)⟩
  · rw [if_neg c3] at H
    have c3b0 : (a1 == 0) = false := beq_eq_false_iff_ne.mpr c3
    have c3b1 : (a1 != 0) = true := bne_iff_ne.mpr c3
    replace H := Option.bind_eq_some_iff.mp H
    obtain ⟨t126, A60, H⟩ := H
    replace H : ((partitaref01_size.f a1).bind fun t127 => ((partitaref01_divisor.f t126 t127).bind fun t128 => (if t128 = 0 then (none) else (if (IntKind.u64.wrap (Int.tdiv t126 t128)) > 1000000000 then (partitaref01_Of.j0 k a0 a1 (IntKind.u64.wrap (Int.tdiv t126 t128)) (IntKind.u64.wrap (Int.tdiv t127 t128)) true) else (partitaref01_Of.j0 k a0 a1 (IntKind.u64.wrap (Int.tdiv t126 t128)) (IntKind.u64.wrap (Int.tdiv t127 t128)) (decide ((IntKind.u64.wrap (Int.tdiv t127 t128)) > 1000000000))))))) = some (r1, r2, r3) := H
    have A6 := Aside0.mk A60
    clear A60
    replace H := Option.bind_eq_some_iff.mp H
    obtain ⟨t127, A70, H⟩ := H
    replace H : ((partitaref01_divisor.f t126 t127).bind fun t128 => (if t128 = 0 then (none) else (if (IntKind.u64.wrap (Int.tdiv t126 t128)) > 1000000000 then (partitaref01_Of.j0 k a0 a1 (IntKind.u64.wrap (Int.tdiv t126 t128)) (IntKind.u64.wrap (Int.tdiv t127 t128)) true) else (partitaref01_Of.j0 k a0 a1 (IntKind.u64.wrap (Int.tdiv t126 t128)) (IntKind.u64.wrap (Int.tdiv t127 t128)) (decide ((IntKind.u64.wrap (Int.tdiv t127 t128)) > 1000000000)))))) = some (r1, r2, r3) := H
    have A7 := Aside0.mk A70
    clear A70
    replace H := Option.bind_eq_some_iff.mp H
    obtain ⟨t128, A80, H⟩ := H
    replace H : (if t128 = 0 then (none) else (if (IntKind.u64.wrap (Int.tdiv t126 t128)) > 1000000000 then (partitaref01_Of.j0 k a0 a1 (IntKind.u64.wrap (Int.tdiv t126 t128)) (IntKind.u64.wrap (Int.tdiv t127 t128)) true) else (partitaref01_Of.j0 k a0 a1 (IntKind.u64.wrap (Int.tdiv t126 t128)) (IntKind.u64.wrap (Int.tdiv t127 t128)) (decide ((IntKind.u64.wrap (Int.tdiv t127 t128)) > 1000000000))))) = some (r1, r2, r3) := H
    have A8 := Aside0.mk A80
    clear A80
    by_cases c9 : t128 = 0
    · rw [if_pos c9] at H
      exact absurd H (by simp)
    · rw [if_neg c9] at H
      have c9b0 : (t128 == 0) = false := beq_eq_false_iff_ne.mpr c9
      have c9b1 : (t128 != 0) = true := bne_iff_ne.mpr c9
      have HC10 := Aside0.mk H
      clear H
      go_enter Try.func14, Try.ntmps14
      go_upto_region 8 with (first | ((with_reducible refine gate_dst (N := 4) rfl ?_); refine box_event ?hg (N := 4) ?hd (cs := #[.int .i64 0, .int .i64 0]) (t := 27) ?hr ?_; (case hd => rfl); (case hg => rfl); (case hr => first | (go_simp; done) | (go_simp; rfl)); intro gb125 hg w11 hbox hb; have n0_ := Aside0.mk (below_step (by repeat (first | (with_reducible first | exact HB.out | apply below_alloc | apply pw_below_drewN | apply below_drew1) | exact HB.out)) hb); have n1_ := Aside0.mk (hbox); have n2_ := Aside0.mk ((by rw [hg]; exact (below_size (by repeat (first | (with_reducible first | exact HB.out | apply below_alloc | apply pw_below_drewN | apply below_drew1) | exact HB.out))) : w.heap.size ≤ gb125)); have n3_ := Aside0.mk ((by rw [hg]; exact (below_size (by repeat (first | (with_reducible first | exact HB.out | apply below_alloc | apply pw_below_drewN | apply below_drew1) | exact HB.out))) : w.heap.size ≤ gb125)); clear HB; have HB := n0_; have BK125 := n1_; have GW125 := n2_; have GE125 := n3_; clear n0_ n1_ n2_ n3_; clear hb hbox hg) | ((with_reducible refine gate_callee (f := 22) rfl ?_); refine goesL_ (some 13) rfl rfl Try.func22 (by kernel_rfl) rfl #[.int .i64 a0] rfl (by (try simp only [List.map_toArray, List.map_cons, List.map_nil]); first | done | rfl | (simp only [List.length_drop, List.length_take]; rfl)) ?_; (with_reducible refine (partitaref01_size.calls a0 t126 _ A6.out).mono ?_); rintro e w' ⟨rfl, ⟨nd, rfl⟩⟩; refine ⟨_, rfl, ?_⟩) | ((with_reducible refine gate_callee (f := 22) rfl ?_); refine goesL_ (some 15) rfl rfl Try.func22 (by kernel_rfl) rfl #[.int .i64 a1] rfl (by (try simp only [List.map_toArray, List.map_cons, List.map_nil]); first | done | rfl | (simp only [List.length_drop, List.length_take]; rfl)) ?_; (with_reducible refine (partitaref01_size.calls a1 t127 _ A7.out).mono ?_); rintro e w' ⟨rfl, ⟨nd, rfl⟩⟩; refine ⟨_, rfl, ?_⟩) | ((with_reducible refine gate_callee (f := 23) rfl ?_); refine goesL_ (some 18) rfl rfl Try.func23 (by kernel_rfl) rfl #[.int .u64 t126, .int .u64 t127] rfl (by (try simp only [List.map_toArray, List.map_cons, List.map_nil]); first | done | rfl | (simp only [List.length_drop, List.length_take]; rfl)) ?_; (with_reducible refine (partitaref01_divisor.calls t126 t127 t128 _ A8.out).mono ?_); rintro e w' ⟨rfl, ⟨nd, rfl⟩⟩; refine ⟨_, rfl, ?_⟩))
      (try simp only [Act.put, qa_, qz_, qs_])
      go_cut [30] (fun v30 wc => ∃ (kq : Nat) (x30_9 : Bool), v30 = .bool x30_9 ∧ Aside0 (partitaref01_Of.j0 kq a0 a1 (IntKind.u64.wrap (Int.tdiv t126 t128)) (IntKind.u64.wrap (Int.tdiv t127 t128)) x30_9 = some (r1, r2, r3)) ∧ Aside0 (kq ≤ k) ∧ Aside0 (wc.heap[gb125]? = some (.cells #[.int .i64 0, .int .i64 0] 27 (0, 0))) ∧ Aside0 (Below w.heap.size w wc))
      case first =>
        have H := HC10.out
        clear HC10
        by_cases c12 : (IntKind.u64.wrap (Int.tdiv t126 t128)) > 1000000000
        · rw [if_pos c12] at H
          have c12b0 : decide (1000000000 < (IntKind.u64.wrap (Int.tdiv t126 t128))) = true := decide_eq_true c12
          clear c12
          (first | rw [c12b0] | (simp only [i64_w, i32_w]; rw [c12b0]) | skip)
          have H' := Aside0.mk H
          clear H
          go_wp2
          go_meet
          case rel => exact ⟨_, (true), (by first | rfl | (simp; done) | (simp [*]; done)), H', ⟨by first | omega | exact Nat.le_refl _⟩, ⟨by (with_reducible repeat (first | refine blk_drewN ?_ _ | refine blk_drew ?_ | refine blk_alloc ?_ _)); exact BK125.out⟩, ⟨by repeat (first | (with_reducible first | exact HB.out | apply below_alloc | apply pw_below_drewN | apply below_drew1 | refine below_set ?_ GE125.out) | exact HB.out)⟩⟩
        · rw [if_neg c12] at H
          have c12b0 : decide (1000000000 < (IntKind.u64.wrap (Int.tdiv t126 t128))) = false := decide_eq_false c12
          clear c12
          (first | rw [c12b0] | (simp only [i64_w, i32_w]; rw [c12b0]) | skip)
          have H' := Aside0.mk H
          clear H
          go_wp2
          go_meet
          case rel => exact ⟨_, (decide ((IntKind.u64.wrap (Int.tdiv t127 t128)) > 1000000000)), (by first | rfl | (simp; done) | (simp [*]; done)), H', ⟨by first | omega | exact Nat.le_refl _⟩, ⟨by (with_reducible repeat (first | refine blk_drewN ?_ _ | refine blk_drew ?_ | refine blk_alloc ?_ _)); exact BK125.out⟩, ⟨by repeat (first | (with_reducible first | exact HB.out | apply below_alloc | apply pw_below_drewN | apply below_drew1 | refine below_set ?_ GE125.out) | exact HB.out)⟩⟩
      case rest =>
        clear HC10
        try clear c1
        try clear c2
        try clear p2
        try clear c3
        try clear c3b0
        try clear c3b1
        try clear c9
        try clear c9b0
        try clear c9b1
        try clear c12
        try clear c12b0
        try clear hcz5_0
        try clear hcz5_1
        try clear hfz5_0
        try clear hfz5_1
        obtain ⟨kq, x30_9, rfl, HA, HJ9, BK125, HB⟩ := hcut
        cases kq with
        | zero => exact absurd HA.out (by simp [partitaref01_Of.j0])
        | succ kj9 =>
          have H := HA.out
          clear HA
          simp only [partitaref01_Of.j0] at H
          by_cases c13 : x30_9 = true
          · subst c13
            have H1 : (some (0, 0, 10)) = some (r1, r2, r3) := by rw [if_pos rfl] at H; exact H
            clear H
            have H := H1
            clear H1
            simp only [Option.some.injEq, Prod.mk.injEq] at H
            obtain ⟨rfl, rfl, rfl⟩ := H
            have hcz14_0 : wc.cell? ⟨gb125, 0, none⟩ = some (.int .i64 0) := (blk_cell BK125.out 0).trans rfl
            have hcz14_1 : wc.cell? ⟨gb125, 1, none⟩ = some (.int .i64 0) := (blk_cell BK125.out 1).trans rfl
            have hfz14_0 := blk_frozen BK125.out 0
            have hfz14_1 := blk_frozen BK125.out 1
            go_wp2
            refine bodyPost_ret (results_ct rfl _ _ gb125 27 #[.int .i64 0, .int .i64 0] (0, 0) _ rfl (by (with_reducible repeat (first | refine blk_drewN ?_ _ | refine blk_drew ?_ | refine blk_alloc ?_ _)); refine blk_put (cs := #[.int .i64 0, .int .i64 0]) ?_ 1 _ rfl; (with_reducible repeat (first | refine blk_drewN ?_ _ | refine blk_drew ?_ | refine blk_alloc ?_ _)); refine blk_put (cs := #[.int .i64 0, .int .i64 0]) ?_ 0 _ rfl; (with_reducible repeat (first | refine blk_drewN ?_ _ | refine blk_drew ?_ | refine blk_alloc ?_ _)); exact BK125.out) Try.underlying27 rfl (by kernel_rfl)) rfl ?_
            exact ⟨by first | rfl | (simp [errW_none, errW_some] <;> rfl) | (simp [*, errW_none, errW_some] <;> rfl), by repeat (first | (with_reducible first | exact HB.out | apply below_alloc | apply pw_below_drewN | apply below_drew1 | refine below_set ?_ GE125.out) | exact HB.out)⟩
          · replace c13 := Bool.eq_false_iff.mpr c13
            subst c13
            have H1 : (if ((decide (a0 < 0)) != (decide (a1 < 0))) = true then (some (wrap64 (-(wrap64 ((IntKind.u64.wrap (Int.tdiv t126 t128))))), wrap64 ((IntKind.u64.wrap (Int.tdiv t127 t128))), 0)) else (some (wrap64 ((IntKind.u64.wrap (Int.tdiv t126 t128))), wrap64 ((IntKind.u64.wrap (Int.tdiv t127 t128))), 0))) = some (r1, r2, r3) := by rw [if_neg (show ¬ (false = true) by decide)] at H; exact H
            clear H
            have H := H1
            clear H1
            by_cases c15 : ((decide (a0 < 0)) != (decide (a1 < 0))) = true
            · rw [if_pos c15] at H
              have c15b0 : ((decide (a0 < 0)) != (decide (a1 < 0))) = true := c15
              (try (have c15b1 : decide ((decide (a0 < 0)) = (decide (a1 < 0))) = false := by simpa using c15))
              (try (have c15b2 : ((decide (a0 < 0)) == (decide (a1 < 0))) = false := by simpa using c15))
              (try (have c15b3 : ¬ ((decide (a0 < 0)) = (decide (a1 < 0))) := by simpa using c15))
              clear c15
              simp only [Option.some.injEq, Prod.mk.injEq] at H
              obtain ⟨rfl, rfl, rfl⟩ := H
              have hcz16_0 : wc.cell? ⟨gb125, 0, none⟩ = some (.int .i64 0) := (blk_cell BK125.out 0).trans rfl
              have hcz16_1 : wc.cell? ⟨gb125, 1, none⟩ = some (.int .i64 0) := (blk_cell BK125.out 1).trans rfl
              have hfz16_0 := blk_frozen BK125.out 0
              have hfz16_1 := blk_frozen BK125.out 1
              go_wp2
              refine bodyPost_ret (results_ct rfl _ _ gb125 27 #[.int .i64 (wrap64 (-(wrap64 ((IntKind.u64.wrap (Int.tdiv t126 t128)))))), .int .i64 (wrap64 ((IntKind.u64.wrap (Int.tdiv t127 t128))))] (0, 0) _ rfl (by (with_reducible repeat (first | refine blk_drewN ?_ _ | refine blk_drew ?_ | refine blk_alloc ?_ _)); refine blk_put (cs := #[.int .i64 (wrap64 (-(wrap64 ((IntKind.u64.wrap (Int.tdiv t126 t128)))))), .int .i64 0]) ?_ 1 _ rfl; (with_reducible repeat (first | refine blk_drewN ?_ _ | refine blk_drew ?_ | refine blk_alloc ?_ _)); refine blk_put (cs := #[.int .i64 0, .int .i64 0]) ?_ 0 _ rfl; (with_reducible repeat (first | refine blk_drewN ?_ _ | refine blk_drew ?_ | refine blk_alloc ?_ _)); exact BK125.out) Try.underlying27 rfl (by kernel_rfl)) rfl ?_
              exact ⟨by first | rfl | (simp [errW_none, errW_some] <;> rfl) | (simp [*, errW_none, errW_some] <;> rfl), by repeat (first | (with_reducible first | exact HB.out | apply below_alloc | apply pw_below_drewN | apply below_drew1 | refine below_set ?_ GE125.out) | exact HB.out)⟩
            · rw [if_neg c15] at H
              have c15b0 : ((decide (a0 < 0)) != (decide (a1 < 0))) = false := by simpa using c15
              (try (have c15b1 : decide ((decide (a0 < 0)) = (decide (a1 < 0))) = true := by simpa using c15))
              (try (have c15b2 : ((decide (a0 < 0)) == (decide (a1 < 0))) = true := by simpa using c15))
              clear c15
              simp only [Option.some.injEq, Prod.mk.injEq] at H
              obtain ⟨rfl, rfl, rfl⟩ := H
              have hcz17_0 : wc.cell? ⟨gb125, 0, none⟩ = some (.int .i64 0) := (blk_cell BK125.out 0).trans rfl
              have hcz17_1 : wc.cell? ⟨gb125, 1, none⟩ = some (.int .i64 0) := (blk_cell BK125.out 1).trans rfl
              have hfz17_0 := blk_frozen BK125.out 0
              have hfz17_1 := blk_frozen BK125.out 1
              go_wp2
              refine bodyPost_ret (results_ct rfl _ _ gb125 27 #[.int .i64 (wrap64 ((IntKind.u64.wrap (Int.tdiv t126 t128)))), .int .i64 (wrap64 ((IntKind.u64.wrap (Int.tdiv t127 t128))))] (0, 0) _ rfl (by (with_reducible repeat (first | refine blk_drewN ?_ _ | refine blk_drew ?_ | refine blk_alloc ?_ _)); refine blk_put (cs := #[.int .i64 (wrap64 ((IntKind.u64.wrap (Int.tdiv t126 t128)))), .int .i64 0]) ?_ 1 _ rfl; (with_reducible repeat (first | refine blk_drewN ?_ _ | refine blk_drew ?_ | refine blk_alloc ?_ _)); refine blk_put (cs := #[.int .i64 0, .int .i64 0]) ?_ 0 _ rfl; (with_reducible repeat (first | refine blk_drewN ?_ _ | refine blk_drew ?_ | refine blk_alloc ?_ _)); exact BK125.out) Try.underlying27 rfl (by kernel_rfl)) rfl ?_
              exact ⟨by first | rfl | (simp [errW_none, errW_some] <;> rfl) | (simp [*, errW_none, errW_some] <;> rfl), by repeat (first | (with_reducible first | exact HB.out | apply below_alloc | apply pw_below_drewN | apply below_drew1 | refine below_set ?_ GE125.out) | exact HB.out)⟩

end Go.Proofs.Ytchjlkokfgmjaaa.Q
