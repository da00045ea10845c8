-- Written by a program of this session (myprint.py), function by function.
import Derived.Test.YtiifeheejapegaaQ0
import Derived.Test.YtiifeheejapegaaQ2
import Derived.Test.YtiifeheejapegaaQ3
import Derived.Test.YtiifeheejapegaaQ5
import Derived.BigRegion
import Derived.ChangeAlike
import Derived.IntWalk
import Derived.RegionTactic
namespace Go.Proofs.Ytiifeheejapegaa.Q
open Go.RowKit Go.Proofs.YtiifeheejapegaaW.PrintWords Go.Proofs.YtiifeheejapegaaW.PrintLast Go.Proofs.YtiifeheejapegaaW.PrintMore
attribute [local go_sem] max2_int min2_int max_two min_two max_three min_three max_four min_four   -- for this text's walks alone
set_option linter.unusedVariables false
set_option linter.unusedSimpArgs false

/-! ### dyn_Level: function 15 -/
def aboveB (a b : Int) (d : S36) : Bool := decide (0 < cmpI d.f0.f0 d.f0.f1 a b)
theorem cmp_any (a b c d : Int) (w : World) :
    Calls Try.prog 19 #[.agg #[.int .i64 a, .int .i64 b], .agg #[.int .i64 c, .int .i64 d]] w fun e w' => e = .returned (.int .i64 (cmpI a b c d)) ∧ Below w.heap.size w w' := ratio_Compare.calls a b c d _ w rfl
set_option maxHeartbeats 1000000 in
set_option maxRecDepth 100000 in
theorem above_any (B : Nat) (a b x y z : Int) (t : Bool) (w : World) (hB : B < w.heap.size) (h0 : w.cell? ⟨B, 0, none⟩ = some (.int .i64 a)) (h1 : w.cell? ⟨B, 1, none⟩ = some (.int .i64 b)) :
    Calls Try.prog 26 #[.agg #[.int .i64 x, .int .i64 y, .int .i64 z, .bool t], .pointer (some ⟨B, 0, none⟩)] w fun e w' => e = .returned (.bool (decide (0 < cmpI x y a b))) ∧ Below w.heap.size w w' := by
  have HB := Aside0.mk (Below.refl w.heap.size w)
  have hu := Try.underlying29
  generalize hr : decide (0 < cmpI x y a b) = r
  have hne : B ≠ w.heap.size := by omega
  have hne2 : w.heap.size ≠ B := by omega
  have HR := Aside0.mk hr
  clear hr
  go_enter Try.func26, Try.ntmps26
  go_wp2_with (go_at_call 19; (with_reducible refine (cmp_any _ _ _ _ _).mono ?_); rintro e w1 ⟨rfl, hb⟩)
  rw [HR.out]
  go_ret
  exact ⟨rfl, (by repeat (first | exact HB.out | apply below_alloc) : Below w.heap.size w _).trans (hb.mono (by simp))⟩
/-- The first index at which p holds; -1. -/
def idxI (p : S36 → Bool) : List S36 → Int
  | [] => -1
  | d :: l => if p d = true then 0 else if idxI p l = -1 then -1 else idxI p l + 1
def idxFrom (p : S36 → Bool) (k : Nat) (l : List S36) : Int := if idxI p l = -1 then -1 else idxI p l + k
theorem idxFrom_step (p : S36 → Bool) (l : List S36) (k : Nat) (h : k < l.length) : idxFrom p k (l.drop k) = if p (rd_T36 l k) = true then (k : Int) else idxFrom p (k + 1) (l.drop (k + 1)) := by
  rw [List.drop_eq_getElem_cons h]
  have e : rd_T36 l (k : Int) = l[k] := by simp [rd_T36, List.getD, h]
  rw [e]
  unfold idxFrom
  simp only [idxI]
  by_cases hp : p l[k] = true
  · simp [hp]
  · simp only [hp, if_false, Bool.false_eq_true]
    by_cases h1 : idxI p (l.drop (k + 1)) = -1
    · simp [h1]
    · have h2 : 0 ≤ idxI p (l.drop (k + 1)) := by
        clear hp e
        generalize l.drop (k + 1) = m at h1
        induction m with
        | nil => simp [idxI] at h1
        | cons d m ih =>
          simp only [idxI] at h1 ⊢
          split
          · omega
          · rename_i hd
            rw [if_neg hd] at h1
            by_cases h3 : idxI p m = -1
            · rw [if_pos h3] at h1; exact absurd rfl h1
            · rw [if_neg h3]; have := ih h3; omega
      rw [if_neg h1, if_neg (by omega), if_neg h1]
      push_cast
      omega
set_option maxHeartbeats 1000000 in
set_option maxRecDepth 100000 in
theorem IndexFunc_any (g : Nat) (eg : ∀ args w, (callFunc g args).run Try.prog w = .ok (.enter g args) w) (lb : Array Value) (p : S36 → Bool) (A : Option Addr) (c : Nat) (l : List S36) (w : World) (hr : Kd.C k36 w A l.length l) (hc : l.length ≤ c) (hlen : l.length ≤ 1000)
    (hP : ∀ (d : S36) (W : World), Below w.heap.size w W → Calls Try.prog g (#[.agg #[.int .i64 d.f0.f0, .int .i64 d.f0.f1, .int .i64 d.f1, .bool d.f2]] ++ lb) W fun e W' => e = .returned (.bool (p d)) ∧ Below W.heap.size W W') :
    Calls Try.prog 27 #[.slice A l.length c, .func (.func g) #[] lb] w fun e w' => e = .returned (.int .i64 (idxI p l)) ∧ Below w.heap.size w w' := by
  have hres : idxFrom p 0 (l.drop 0) = idxI p l := by unfold idxFrom; split <;> simp_all
  have HRES := Aside0.mk hres
  generalize idxI p l = r at *
  have HR := Aside0.mk hr
  have HP := Aside0.mk hP
  have HB := Aside0.mk (Below.refl w.heap.size w)
  clear hr hP hres
  have hu := Try.underlying36
  go_enter Try.func27, Try.ntmps27
  go_wp2
  go_loopw [8] (fun i wr => ∃ k : Nat, i = .int .i64 k ∧ k ≤ l.length ∧ Aside0 (idxFrom p k (l.drop k) = r) ∧ Aside0 (Below w.heap.size w wr)) (fun i _ => l.length - (intOf i).toNat)
  case atStart => exact ⟨0, rfl, by omega, HRES, HB⟩
  case round =>
    obtain ⟨k, rfl, hk, HT, HB2⟩ := hrel
    clear HRES
    by_cases hlt : k < l.length
    · have h2 := HT.out
      rw [idxFrom_step p l k hlt] at h2
      have H2 := Aside0.mk h2
      obtain ⟨ad, rfl, x0, x1, x2, x3⟩ := at_T36 HR.out (k : Int) (by omega) (by omega)
      have y0 := (HB2.out.cell (World.block_lt_of_cell? w _ x0)).trans x0
      have y1 := (HB2.out.cell (World.block_lt_of_cell? w _ x1)).trans x1
      have y2 := (HB2.out.cell (World.block_lt_of_cell? w _ x2)).trans x2
      have y3 := (HB2.out.cell (World.block_lt_of_cell? w _ x3)).trans x3
      rw [Int.toNat_natCast] at y0 y1 y2 y3
      have M := Aside0.mk (HP.out (rd_T36 l k) wr HB2.out)
      clear h2 x0 x1 x2 x3 HT
      generalize rd_T36 l (k : Int) = d at *
      have hltd : decide (k < l.length) = true := by simp; omega
      by_cases hp : p d = true
      · rw [hp] at M H2
        rw [if_pos rfl] at H2
        have HK := H2.out
        clear H2
        subst HK
        go_wp2_with (go_at_fn g; refine M.out.mono ?_; rintro e w1 ⟨rfl, hb⟩)
        go_ret
        exact ⟨rfl, HB2.out.trans (hb.mono HB2.out.size)⟩
      · replace hp := Bool.eq_false_iff.mpr hp
        rw [hp] at M H2
        rw [if_neg (by decide)] at H2
        go_wp2_with (go_at_fn g; refine M.out.mono ?_; rintro e w1 ⟨rfl, hb⟩)
        go_roundw
        case rel => exact ⟨k + 1, by go_num, by omega, H2, ⟨HB2.out.trans (hb.mono HB2.out.size)⟩⟩
        case measure => simp [intOf]; omega
    · have e : k = l.length := by omega
      subst e
      have h2 := HT.out
      rw [List.drop_length] at h2
      have HK : (-1 : Int) = r := h2
      clear h2 HT
      subst HK
      have hltd : decide (l.length < l.length) = false := by simp
      go_wp2
      go_ret
      exact ⟨rfl, HB2.out⟩
/-- The dynamic behind the last one whose place isn't above (a, b); -1: there is none. -/
def levelBody (k : Nat) (l : List S36) (a b : Int) : Option (Int × Int) :=
  let n := idxI (aboveB a b) l
  if n = 0 ∨ l.length = 0 then some (80, 0)
  else if n < 0 then some ((rd_T36 l (l.length - 1)).f1, 0)
  else
    let x := rd_T36 l (n - 1)
    let y := rd_T36 l n
    if x.f2 = false then some (x.f1, 0)
    else if x.f1 ≤ y.f1 then (dyn_way.f k x.f0.f0 x.f0.f1 a b y.f0.f0 y.f0.f1 (wrap64 (y.f1 - x.f1)) false).bind fun k => some (wrap64 (x.f1 + k), 0)
    else (dyn_way.f k x.f0.f0 x.f0.f1 a b y.f0.f0 y.f0.f1 (wrap64 (x.f1 - y.f1)) true).bind fun k => some (wrap64 (x.f1 - k), 0)
def dyn_Level.f (k : Nat) (l : List S36) (a b : Int) : Option (Int × Int) :=
  if l.length ≤ 1000 then
    (dyn_Check.f k l).bind fun c => if c.2 = 0 then (if rightB a b = true ∧ 0 ≤ a then levelBody k l a b else some (0, 2)) else some (0, c.2)
  else none
theorem idxI_ge (p : S36 → Bool) (l : List S36) : -1 ≤ idxI p l := by
  induction l with
  | nil => simp [idxI]
  | cons d l ih => simp only [idxI]; split <;> (try split) <;> omega
theorem idxI_neg {p : S36 → Bool} {l : List S36} (h : idxI p l < 0) : idxI p l = -1 := by have := idxI_ge p l; omega
theorem idxI_lt {p : S36 → Bool} {l : List S36} (h : ¬ idxI p l < 0) : idxI p l < l.length := by
  induction l with
  | nil => simp [idxI] at h
  | cons d l ih =>
    simp only [idxI, List.length_cons] at h ⊢
    split
    · omega
    · rename_i hd
      rw [if_neg hd] at h
      have := idxI_ge p l
      by_cases h1 : idxI p l = -1
      · rw [if_pos h1] at h; omega
      · rw [if_neg h1]; have := ih (by omega); omega
theorem levelBody_in {k : Nat} {l : List S36} {a b : Int} {m : Nat} {x y : S36} {r : Int × Int} (hn : idxI (aboveB a b) l = (m : Int) + 1) (hm : (m : Int) + 1 < l.length) (hx : rd_T36 l (m : Int) = x) (hy : rd_T36 l ((m : Int) + 1) = y) (h : levelBody k l a b = some r) :
    (if x.f2 = false then some (x.f1, (0 : Int)) else if x.f1 ≤ y.f1 then (dyn_way.f k x.f0.f0 x.f0.f1 a b y.f0.f0 y.f0.f1 (wrap64 (y.f1 - x.f1)) false).bind fun k => some (wrap64 (x.f1 + k), 0)
      else (dyn_way.f k x.f0.f0 x.f0.f1 a b y.f0.f0 y.f0.f1 (wrap64 (x.f1 - y.f1)) true).bind fun k => some (wrap64 (x.f1 - k), 0)) = some r := by
  unfold levelBody at h
  rw [hn] at h
  simp only [] at h
  rw [if_neg (by omega), if_neg (by omega), Int.add_sub_cancel, hx, hy] at h
  exact h
theorem dyn_Level.mono : ∀ l a b k, LeO (dyn_Level.f k l a b) (dyn_Level.f (k + 1) l a b) := by
  intro l a b k
  unfold dyn_Level.f levelBody
  repeat' first
      | (with_reducible exact dyn_Check.mono _ _)
      | (with_reducible exact dyn_way.mono _ _ _ _ _ _ _ _ _)
      | (with_reducible exact LeO.refl _)
      | (with_reducible exact LeO.none _)
      | (with_reducible refine LeO.ite ?_ ?_)
      | (with_reducible refine LeO.bind ?_ (fun _ => ?_))
      | exact LeO.none _
      | refine LeO.ite ?_ ?_
      | refine LeO.bind ?_ (fun _ => ?_)
theorem placed_any (a b : Int) (x : Bool) (w : World) (h : (rightB a b && decide (0 ≤ a)) = x) :
    Calls Try.prog 23 #[.agg #[.int .i64 a, .int .i64 b]] w fun e w' => e = .returned (.bool x) ∧ Below w.heap.size w w' := by
  refine dyn_placed.calls a b x w ?_
  unfold dyn_placed.f ratio_Right.f
  simp only [Option.bind_some]
  cases h1 : rightB a b <;> simp [h1] at h ⊢ <;> exact h
set_option maxHeartbeats 2000000 in
set_option maxRecDepth 100000 in
theorem dyn_Level.calls (k : Nat) (A0 : Option Addr) (c0 : Nat) (l0 : List S36) (a b : Int) (r1 r2 : Int) (w : World) (hr : Kd.C k36 w A0 l0.length l0) (hc : l0.length ≤ c0) (h : dyn_Level.f k l0 a b = some (r1, r2)) :
    Calls Try.prog 15 #[.slice A0 l0.length c0, .agg #[.int .i64 a, .int .i64 b]] w fun e w' => e = .returned (.tuple #[.int .i64 r1, .int .i64 r2]) ∧ Below w.heap.size w w' := by
  unfold dyn_Level.f at h
  split at h
  next hlen =>
    obtain ⟨⟨c1, c2⟩, hC, h⟩ := Option.bind_eq_some_iff.mp h
    have HC := Aside0.mk (fun W (hb : Below w.heap.size w W) => dyn_Check.calls k A0 c0 l0 c1 c2 W (Kd.C_below hr hb) hc hC)
    have HR := Aside0.mk hr
    have HB := Aside0.mk (Below.refl w.heap.size w)
    have hu := Try.underlying29
    have hu36 := Try.underlying36
    clear hC hr
    by_cases hc2 : c2 = 0
    · simp only [hc2, if_true] at h
      subst hc2
      by_cases hp : rightB a b = true ∧ 0 ≤ a
      · rw [if_pos hp] at h
        have HP := Aside0.mk (fun W => placed_any a b true W (by rw [hp.1, decide_eq_true hp.2]; rfl))
        have HPP := Aside0.mk hp
        clear hp
        have hX := fun (W : World) (hb : Below w.heap.size w W) (B : Nat) (hB : B < W.heap.size) (h0 : W.cell? ⟨B, 0, none⟩ = some (.int .i64 a)) (h1 : W.cell? ⟨B, 1, none⟩ = some (.int .i64 b)) =>
          IndexFunc_any 26 (enters_of Try.func26 (by kernel_rfl) rfl) #[.pointer (some ⟨B, 0, none⟩)] (aboveB a b) A0 c0 l0 W (Kd.C_below HR.out hb) hc hlen
            (fun d W2 hb2 => above_any B a b d.f0.f0 d.f0.f1 d.f1 d.f2 W2 (Nat.lt_of_lt_of_le hB hb2.size) ((hb2.cell (p := ⟨B, 0, none⟩) hB).trans h0) ((hb2.cell (p := ⟨B, 1, none⟩) hB).trans h1))
        have HX := Aside0.mk hX
        clear hX
        have HH := Aside0.mk h
        clear h
        generalize hn : idxI (aboveB a b) l0 = n at *
        have HN := Aside0.mk hn
        by_cases n0 : n = 0
        · subst n0
          obtain ⟨rfl, rfl⟩ : (80 : Int) = r1 ∧ (0 : Int) = r2 := by have h9 := HH.out; unfold levelBody at h9; rw [hn] at h9; simpa using h9
          clear hn h
          go_enter Try.func15, Try.ntmps15
          go_wp2_with (first
            | (go_at_call 13; (with_reducible refine (HC.out _ ?hb1).mono ?_); (case hb1 => (repeat (first | exact HB.out | apply below_alloc))); rintro e w1 ⟨rfl, hb⟩; have B0 := Aside0.mk (blk_below (blk_new w (.cells #[.int .i64 a, .int .i64 b] 29)) hb); have hc0 : w1.cell? ⟨w.heap.size, 0, none⟩ = some (.int .i64 a) := (blk_cell B0.out 0).trans rfl; have hc1 : w1.cell? ⟨w.heap.size, 1, none⟩ = some (.int .i64 b) := (blk_cell B0.out 1).trans rfl; have HB1 := Aside0.mk ((by repeat (first | exact HB.out | apply below_alloc) : Below w.heap.size w _).trans (hb.mono (by simp))); clear hb)
            | (go_at_call 23; (with_reducible refine (HP.out _).mono ?_); rintro e w2 ⟨rfl, hb⟩; have B2 := Aside0.mk (blk_below B0.out hb); clear hc0 hc1; have hc0 : w2.cell? ⟨w.heap.size, 0, none⟩ = some (.int .i64 a) := (blk_cell B2.out 0).trans rfl; have hc1 : w2.cell? ⟨w.heap.size, 1, none⟩ = some (.int .i64 b) := (blk_cell B2.out 1).trans rfl; have HB2 := Aside0.mk (HB1.out.trans (hb.mono HB1.out.size)); clear hb)
            | (go_at_call 27; (with_reducible refine (HX.out _ HB2.out w.heap.size (blk_lt B2.out) hc0 hc1).mono ?_); rintro e w3 ⟨rfl, hb⟩; have B3 := Aside0.mk (blk_below B2.out hb); clear hc0 hc1; have hc0 : w3.cell? ⟨w.heap.size, 0, none⟩ = some (.int .i64 a) := (blk_cell B3.out 0).trans rfl; have hc1 : w3.cell? ⟨w.heap.size, 1, none⟩ = some (.int .i64 b) := (blk_cell B3.out 1).trans rfl; have HB3 := Aside0.mk (HB2.out.trans (hb.mono HB2.out.size)); clear hb))
          go_ret2
          exact ⟨rfl, HB3.out⟩
        · by_cases n1 : n < 0
          · have en : n = -1 := by rw [← hn] at n1 ⊢; exact idxI_neg n1
            subst en
            by_cases z0 : l0.length = 0
            · obtain ⟨rfl, rfl⟩ : (80 : Int) = r1 ∧ (0 : Int) = r2 := by have h9 := HH.out; unfold levelBody at h9; rw [hn] at h9; simpa [z0] using h9
              have e2 : ((l0.length : Int) == 0) = true := beq_iff_eq.mpr (by omega)
              clear hn h n0 n1 z0
              go_enter Try.func15, Try.ntmps15
              go_wp2_with (first
                | (go_at_call 13; (with_reducible refine (HC.out _ ?hb1).mono ?_); (case hb1 => (repeat (first | exact HB.out | apply below_alloc))); rintro e w1 ⟨rfl, hb⟩; have B0 := Aside0.mk (blk_below (blk_new w (.cells #[.int .i64 a, .int .i64 b] 29)) hb); have hc0 : w1.cell? ⟨w.heap.size, 0, none⟩ = some (.int .i64 a) := (blk_cell B0.out 0).trans rfl; have hc1 : w1.cell? ⟨w.heap.size, 1, none⟩ = some (.int .i64 b) := (blk_cell B0.out 1).trans rfl; have HB1 := Aside0.mk ((by repeat (first | exact HB.out | apply below_alloc) : Below w.heap.size w _).trans (hb.mono (by simp))); clear hb)
                | (go_at_call 23; (with_reducible refine (HP.out _).mono ?_); rintro e w2 ⟨rfl, hb⟩; have B2 := Aside0.mk (blk_below B0.out hb); clear hc0 hc1; have hc0 : w2.cell? ⟨w.heap.size, 0, none⟩ = some (.int .i64 a) := (blk_cell B2.out 0).trans rfl; have hc1 : w2.cell? ⟨w.heap.size, 1, none⟩ = some (.int .i64 b) := (blk_cell B2.out 1).trans rfl; have HB2 := Aside0.mk (HB1.out.trans (hb.mono HB1.out.size)); clear hb)
                | (go_at_call 27; (with_reducible refine (HX.out _ HB2.out w.heap.size (blk_lt B2.out) hc0 hc1).mono ?_); rintro e w3 ⟨rfl, hb⟩; have B3 := Aside0.mk (blk_below B2.out hb); clear hc0 hc1; have hc0 : w3.cell? ⟨w.heap.size, 0, none⟩ = some (.int .i64 a) := (blk_cell B3.out 0).trans rfl; have hc1 : w3.cell? ⟨w.heap.size, 1, none⟩ = some (.int .i64 b) := (blk_cell B3.out 1).trans rfl; have HB3 := Aside0.mk (HB2.out.trans (hb.mono HB2.out.size)); clear hb))
              go_ret2
              exact ⟨rfl, HB3.out⟩
            · have e2 : ((l0.length : Int) == 0) = false := beq_eq_false_iff_ne.mpr (by omega)
              obtain ⟨m, hm⟩ : ∃ m : Nat, l0.length = m + 1 := ⟨l0.length - 1, by omega⟩
              have h9 := HH.out
              unfold levelBody at h9
              rw [hn] at h9
              simp only [] at h9
              rw [if_neg (by omega), if_pos (by omega), show ((l0.length : Int) - 1) = m by omega] at h9
              obtain ⟨ad, rfl, x0, x1, x2, x3⟩ := at_T36 HR.out (m : Int) (by omega) (by omega)
              rw [Int.toNat_natCast] at x0 x1 x2 x3
              generalize hx : rd_T36 l0 (m : Int) = x at x0 x1 x2 x3 h9
              obtain ⟨⟨xa, xb⟩, xl, xh⟩ := x
              obtain ⟨rfl, rfl⟩ : xl = r1 ∧ (0 : Int) = r2 := by simpa using h9
              have X0 := Aside0.mk x2
              have p1 : (0 : Int) ≤ m := by omega
              have p2 : (m : Int) < l0.length := by omega
              have p5 : (l0.length : Int) - 1 = m := by omega
              have p6 : l0.length - 1 = m := by omega
              have p7 : (1 : Int) ≤ l0.length := by omega
              clear hn h n0 n1 z0 hx x0 x1 x2 x3 h9 hm
              go_enter Try.func15, Try.ntmps15
              go_wp2_with (first
                | (go_at_call 13; (with_reducible refine (HC.out _ ?hb1).mono ?_); (case hb1 => (repeat (first | exact HB.out | apply below_alloc))); rintro e w1 ⟨rfl, hb⟩; have B0 := Aside0.mk (blk_below (blk_new w (.cells #[.int .i64 a, .int .i64 b] 29)) hb); have hc0 : w1.cell? ⟨w.heap.size, 0, none⟩ = some (.int .i64 a) := (blk_cell B0.out 0).trans rfl; have hc1 : w1.cell? ⟨w.heap.size, 1, none⟩ = some (.int .i64 b) := (blk_cell B0.out 1).trans rfl; have HB1 := Aside0.mk ((by repeat (first | exact HB.out | apply below_alloc) : Below w.heap.size w _).trans (hb.mono (by simp))); clear hb)
                | (go_at_call 23; (with_reducible refine (HP.out _).mono ?_); rintro e w2 ⟨rfl, hb⟩; have B2 := Aside0.mk (blk_below B0.out hb); clear hc0 hc1; have hc0 : w2.cell? ⟨w.heap.size, 0, none⟩ = some (.int .i64 a) := (blk_cell B2.out 0).trans rfl; have hc1 : w2.cell? ⟨w.heap.size, 1, none⟩ = some (.int .i64 b) := (blk_cell B2.out 1).trans rfl; have HB2 := Aside0.mk (HB1.out.trans (hb.mono HB1.out.size)); clear hb)
                | (go_at_call 27; (with_reducible refine (HX.out _ HB2.out w.heap.size (blk_lt B2.out) hc0 hc1).mono ?_); rintro e w3 ⟨rfl, hb⟩; have B3 := Aside0.mk (blk_below B2.out hb); clear hc0 hc1; have hc0 : w3.cell? ⟨w.heap.size, 0, none⟩ = some (.int .i64 a) := (blk_cell B3.out 0).trans rfl; have hc1 : w3.cell? ⟨w.heap.size, 1, none⟩ = some (.int .i64 b) := (blk_cell B3.out 1).trans rfl; have HB3 := Aside0.mk (HB2.out.trans (hb.mono HB2.out.size)); clear hb; have x2 := (HB3.out.cell (World.block_lt_of_cell? w _ X0.out)).trans X0.out))
              go_ret2
              exact ⟨rfl, HB3.out⟩
          · have n2 : n < l0.length := by rw [← hn]; exact idxI_lt (by omega)
            have e0 : (n == 0) = false := beq_eq_false_iff_ne.mpr n0
            have e2 : ((l0.length : Int) == 0) = false := beq_eq_false_iff_ne.mpr (by omega)
            have e1 : decide (n < 0) = false := decide_eq_false n1
            obtain ⟨m, rfl⟩ : ∃ m : Nat, n = (m : Int) + 1 := ⟨(n - 1).toNat, by omega⟩
            obtain ⟨ad, rfl, x0, x1, x2, x3⟩ := at_T36 HR.out (m : Int) (by omega) (by omega)
            obtain ⟨ad', ha, y0, y1, y2, y3⟩ := at_T36 HR.out ((m : Int) + 1) (by omega) (by omega)
            cases ha
            rw [Int.toNat_natCast] at x0 x1 x2 x3
            rw [show ((m : Int) + 1).toNat = m + 1 by omega] at y0 y1 y2 y3
            have p1 : (0 : Int) ≤ m := by omega
            have p2 : (m : Int) < l0.length := by omega
            have p3 : (0 : Int) ≤ (m : Int) + 1 := by omega
            have hw1 : IntKind.i64.wrap (m : Int) = m := IntWalk.i64_in _ (by omega)
            clear n0 n1 h
            generalize hx : rd_T36 l0 (m : Int) = x at x0 x1 x2 x3
            generalize hy : rd_T36 l0 ((m : Int) + 1) = y at y0 y1 y2 y3
            obtain ⟨⟨xa, xb⟩, xl, xh⟩ := x
            obtain ⟨⟨ya, yb⟩, yl, yh⟩ := y
            have HL := levelBody_in hn n2 hx hy HH.out
            dsimp only at HL
            have X0 := Aside0.mk (And.intro x0 (And.intro x1 (And.intro x2 x3)))
            have Y0 := Aside0.mk (And.intro y0 (And.intro y1 (And.intro y2 y3)))
            clear hn hx hy x0 x1 x2 x3 y0 y1 y2 y3
            go_enter Try.func15, Try.ntmps15
            go_wp2_with (first
              | (go_at_call 13; (with_reducible refine (HC.out _ ?hb1).mono ?_); (case hb1 => (repeat (first | exact HB.out | apply below_alloc))); rintro e w1 ⟨rfl, hb⟩; have B0 := Aside0.mk (blk_below (blk_new w (.cells #[.int .i64 a, .int .i64 b] 29)) hb); have hc0 : w1.cell? ⟨w.heap.size, 0, none⟩ = some (.int .i64 a) := (blk_cell B0.out 0).trans rfl; have hc1 : w1.cell? ⟨w.heap.size, 1, none⟩ = some (.int .i64 b) := (blk_cell B0.out 1).trans rfl; have HB1 := Aside0.mk ((by repeat (first | exact HB.out | apply below_alloc) : Below w.heap.size w _).trans (hb.mono (by simp))); clear hb)
              | (go_at_call 23; (with_reducible refine (HP.out _).mono ?_); rintro e w2 ⟨rfl, hb⟩; have B2 := Aside0.mk (blk_below B0.out hb); clear hc0 hc1; have hc0 : w2.cell? ⟨w.heap.size, 0, none⟩ = some (.int .i64 a) := (blk_cell B2.out 0).trans rfl; have hc1 : w2.cell? ⟨w.heap.size, 1, none⟩ = some (.int .i64 b) := (blk_cell B2.out 1).trans rfl; have HB2 := Aside0.mk (HB1.out.trans (hb.mono HB1.out.size)); clear hb)
              | (go_at_call 27; (with_reducible refine (HX.out _ HB2.out w.heap.size (blk_lt B2.out) hc0 hc1).mono ?_); rintro e w3 ⟨rfl, hb⟩; have B3 := Aside0.mk (blk_below B2.out hb); clear hc0 hc1; have hc0 : w3.cell? ⟨w.heap.size, 0, none⟩ = some (.int .i64 a) := (blk_cell B3.out 0).trans rfl; have hc1 : w3.cell? ⟨w.heap.size, 1, none⟩ = some (.int .i64 b) := (blk_cell B3.out 1).trans rfl; have HB3 := Aside0.mk (HB2.out.trans (hb.mono HB2.out.size)); clear hb))
            have x0 := (HB3.out.cell (World.block_lt_of_cell? w _ X0.out.1)).trans X0.out.1
            have x1 := (HB3.out.cell (World.block_lt_of_cell? w _ X0.out.2.1)).trans X0.out.2.1
            have x2 := (HB3.out.cell (World.block_lt_of_cell? w _ X0.out.2.2.1)).trans X0.out.2.2.1
            have x3 := (HB3.out.cell (World.block_lt_of_cell? w _ X0.out.2.2.2)).trans X0.out.2.2.2
            have y0 := (HB3.out.cell (World.block_lt_of_cell? w _ Y0.out.1)).trans Y0.out.1
            have y1 := (HB3.out.cell (World.block_lt_of_cell? w _ Y0.out.2.1)).trans Y0.out.2.1
            have y2 := (HB3.out.cell (World.block_lt_of_cell? w _ Y0.out.2.2.1)).trans Y0.out.2.2.1
            have y3 := (HB3.out.cell (World.block_lt_of_cell? w _ Y0.out.2.2.2)).trans Y0.out.2.2.2
            have hlt3 := blk_lt B3.out
            have hlt4 : w.heap.size < w3.heap.size + 1 + 1 := by omega
            go_region_held3 (fun w' => w'.cell? (ad.add (m * 4)) = some (.int .i64 xa) ∧ w'.cell? ⟨(ad.add (m * 4)).block, (ad.add (m * 4)).off + 1, none⟩ = some (.int .i64 xb) ∧ w'.cell? ⟨(ad.add (m * 4)).block, (ad.add (m * 4)).off + 2, none⟩ = some (.int .i64 xl) ∧ w'.cell? ⟨(ad.add (m * 4)).block, (ad.add (m * 4)).off + 3, none⟩ = some (.bool xh) ∧ w'.cell? (ad.add ((m + 1) * 4)) = some (.int .i64 ya) ∧ w'.cell? ⟨(ad.add ((m + 1) * 4)).block, (ad.add ((m + 1) * 4)).off + 1, none⟩ = some (.int .i64 yb) ∧ w'.cell? ⟨(ad.add ((m + 1) * 4)).block, (ad.add ((m + 1) * 4)).off + 2, none⟩ = some (.int .i64 yl) ∧ w'.cell? ⟨(ad.add ((m + 1) * 4)).block, (ad.add ((m + 1) * 4)).off + 3, none⟩ = some (.bool yh)) (go_keep) (fail)
            · cases xh
              · rw [if_pos rfl] at HL
                obtain ⟨rfl, rfl⟩ : xl = r1 ∧ (0 : Int) = r2 := by simpa using HL
                go_wp2
                go_ret2
                exact ⟨rfl, by repeat (first | exact HB3.out | apply below_alloc | apply pw_below_drewN | apply below_drew1)⟩
              · rw [if_neg (by decide)] at HL
                by_cases h4 : xl ≤ yl
                · have d4 : decide (xl ≤ yl) = true := decide_eq_true h4
                  rw [if_pos h4] at HL
                  obtain ⟨q, hq, hr⟩ := Option.bind_eq_some_iff.mp HL
                  rw [← i64_w] at hq
                  have HQ := Aside0.mk (fun W => dyn_way.calls k xa xb a b ya yb _ _ q W hq)
                  have HRR := Aside0.mk hr
                  clear HL hr hq h4
                  go_wp2
                  go_region_held3 (fun w' => w'.cell? ⟨w.heap.size, 0, none⟩ = some (.int .i64 a) ∧ w'.cell? ⟨w.heap.size, 1, none⟩ = some (.int .i64 b) ∧ w'.cell? ⟨w3.heap.size, 0, none⟩ = some (.int .i64 xa) ∧ w'.cell? ⟨w3.heap.size, 1, none⟩ = some (.int .i64 xb) ∧ w'.cell? ⟨w3.heap.size, 2, none⟩ = some (.int .i64 xl) ∧ w'.cell? ⟨w3.heap.size, 3, none⟩ = some (.bool true) ∧ w'.cell? ⟨w3.heap.size + 1, 0, none⟩ = some (.int .i64 ya) ∧ w'.cell? ⟨w3.heap.size + 1, 1, none⟩ = some (.int .i64 yb) ∧ w'.cell? ⟨w3.heap.size + 1, 2, none⟩ = some (.int .i64 yl) ∧ w'.cell? ⟨w3.heap.size + 1, 3, none⟩ = some (.bool yh)) (go_keep) ((go_at_call 28; (with_reducible refine (HQ.out _).mono ?_); rintro e w4 ⟨rfl, hb4⟩; obtain ⟨hc9, hf9⟩ := bcell hb4; have BX := blk_below (blk_drew (blk_drew (blk_alloc (blk_new w3 (.cells #[.int .i64 xa, .int .i64 xb, .int .i64 xl, .bool true] 36)) _))) hb4; have z0 : w4.cell? ⟨w3.heap.size, 0, none⟩ = some (.int .i64 xa) := (blk_cell BX 0).trans rfl; have z1 : w4.cell? ⟨w3.heap.size, 1, none⟩ = some (.int .i64 xb) := (blk_cell BX 1).trans rfl; have z2 : w4.cell? ⟨w3.heap.size, 2, none⟩ = some (.int .i64 xl) := (blk_cell BX 2).trans rfl; have z3 : w4.cell? ⟨w3.heap.size, 3, none⟩ = some (.bool true) := (blk_cell BX 3).trans rfl; clear BX))
                  obtain ⟨rfl, rfl⟩ : wrap64 (xl + q) = r1 ∧ (0 : Int) = r2 := by simpa using HRR.out
                  go_wp2
                  go_ret2
                  exact ⟨by first | rfl | (simp only [i64_w]; done) | (simp only [i64_w]; rfl), (by repeat (first | exact HB3.out | apply below_alloc | apply pw_below_drewN | apply below_drew1) : Below w.heap.size w _).trans (hb4.mono (by simp; omega))⟩
                · have d4 : decide (xl ≤ yl) = false := decide_eq_false h4
                  rw [if_neg h4] at HL
                  obtain ⟨q, hq, hr⟩ := Option.bind_eq_some_iff.mp HL
                  rw [← i64_w] at hq
                  have HQ := Aside0.mk (fun W => dyn_way.calls k xa xb a b ya yb _ _ q W hq)
                  have HRR := Aside0.mk hr
                  clear HL hr hq h4
                  go_wp2
                  go_region_held3 (fun w' => w'.cell? ⟨w.heap.size, 0, none⟩ = some (.int .i64 a) ∧ w'.cell? ⟨w.heap.size, 1, none⟩ = some (.int .i64 b) ∧ w'.cell? ⟨w3.heap.size, 0, none⟩ = some (.int .i64 xa) ∧ w'.cell? ⟨w3.heap.size, 1, none⟩ = some (.int .i64 xb) ∧ w'.cell? ⟨w3.heap.size, 2, none⟩ = some (.int .i64 xl) ∧ w'.cell? ⟨w3.heap.size, 3, none⟩ = some (.bool true) ∧ w'.cell? ⟨w3.heap.size + 1, 0, none⟩ = some (.int .i64 ya) ∧ w'.cell? ⟨w3.heap.size + 1, 1, none⟩ = some (.int .i64 yb) ∧ w'.cell? ⟨w3.heap.size + 1, 2, none⟩ = some (.int .i64 yl) ∧ w'.cell? ⟨w3.heap.size + 1, 3, none⟩ = some (.bool yh)) (go_keep) ((go_at_call 28; (with_reducible refine (HQ.out _).mono ?_); rintro e w4 ⟨rfl, hb4⟩; obtain ⟨hc9, hf9⟩ := bcell hb4; have BX := blk_below (blk_drew (blk_drew (blk_alloc (blk_new w3 (.cells #[.int .i64 xa, .int .i64 xb, .int .i64 xl, .bool true] 36)) _))) hb4; have z0 : w4.cell? ⟨w3.heap.size, 0, none⟩ = some (.int .i64 xa) := (blk_cell BX 0).trans rfl; have z1 : w4.cell? ⟨w3.heap.size, 1, none⟩ = some (.int .i64 xb) := (blk_cell BX 1).trans rfl; have z2 : w4.cell? ⟨w3.heap.size, 2, none⟩ = some (.int .i64 xl) := (blk_cell BX 2).trans rfl; have z3 : w4.cell? ⟨w3.heap.size, 3, none⟩ = some (.bool true) := (blk_cell BX 3).trans rfl; clear BX))
                  obtain ⟨rfl, rfl⟩ : wrap64 (xl - q) = r1 ∧ (0 : Int) = r2 := by simpa using HRR.out
                  go_wp2
                  go_ret2
                  exact ⟨by first | rfl | (simp only [i64_w]; done) | (simp only [i64_w]; rfl), (by repeat (first | exact HB3.out | apply below_alloc | apply pw_below_drewN | apply below_drew1) : Below w.heap.size w _).trans (hb4.mono (by simp; omega))⟩
            · cases xh
              · rw [if_pos rfl] at HL
                obtain ⟨rfl, rfl⟩ : xl = r1 ∧ (0 : Int) = r2 := by simpa using HL
                go_wp2
                go_ret2
                exact ⟨rfl, by repeat (first | exact HB3.out | apply below_alloc | apply pw_below_drewN | apply below_drew1)⟩
              · rw [if_neg (by decide)] at HL
                by_cases h4 : xl ≤ yl
                · have d4 : decide (xl ≤ yl) = true := decide_eq_true h4
                  rw [if_pos h4] at HL
                  obtain ⟨q, hq, hr⟩ := Option.bind_eq_some_iff.mp HL
                  rw [← i64_w] at hq
                  have HQ := Aside0.mk (fun W => dyn_way.calls k xa xb a b ya yb _ _ q W hq)
                  have HRR := Aside0.mk hr
                  clear HL hr hq h4
                  go_wp2
                  go_region_held3 (fun w' => w'.cell? ⟨w.heap.size, 0, none⟩ = some (.int .i64 a) ∧ w'.cell? ⟨w.heap.size, 1, none⟩ = some (.int .i64 b) ∧ w'.cell? ⟨w3.heap.size + 1, 0, none⟩ = some (.int .i64 xa) ∧ w'.cell? ⟨w3.heap.size + 1, 1, none⟩ = some (.int .i64 xb) ∧ w'.cell? ⟨w3.heap.size + 1, 2, none⟩ = some (.int .i64 xl) ∧ w'.cell? ⟨w3.heap.size + 1, 3, none⟩ = some (.bool true) ∧ w'.cell? ⟨w3.heap.size, 0, none⟩ = some (.int .i64 ya) ∧ w'.cell? ⟨w3.heap.size, 1, none⟩ = some (.int .i64 yb) ∧ w'.cell? ⟨w3.heap.size, 2, none⟩ = some (.int .i64 yl) ∧ w'.cell? ⟨w3.heap.size, 3, none⟩ = some (.bool yh)) (go_keep) ((go_at_call 28; (with_reducible refine (HQ.out _).mono ?_); rintro e w4 ⟨rfl, hb4⟩; obtain ⟨hc9, hf9⟩ := bcell hb4; have BX := blk_below (blk_drew (blk_drew (blk_alloc (blk_new w3 (.cells #[.int .i64 ya, .int .i64 yb, .int .i64 yl, .bool yh] 36)) _))) hb4; have z0 : w4.cell? ⟨w3.heap.size, 0, none⟩ = some (.int .i64 ya) := (blk_cell BX 0).trans rfl; have z1 : w4.cell? ⟨w3.heap.size, 1, none⟩ = some (.int .i64 yb) := (blk_cell BX 1).trans rfl; have z2 : w4.cell? ⟨w3.heap.size, 2, none⟩ = some (.int .i64 yl) := (blk_cell BX 2).trans rfl; have z3 : w4.cell? ⟨w3.heap.size, 3, none⟩ = some (.bool yh) := (blk_cell BX 3).trans rfl; clear BX))
                  obtain ⟨rfl, rfl⟩ : wrap64 (xl + q) = r1 ∧ (0 : Int) = r2 := by simpa using HRR.out
                  go_wp2
                  go_ret2
                  exact ⟨by first | rfl | (simp only [i64_w]; done) | (simp only [i64_w]; rfl), (by repeat (first | exact HB3.out | apply below_alloc | apply pw_below_drewN | apply below_drew1) : Below w.heap.size w _).trans (hb4.mono (by simp; omega))⟩
                · have d4 : decide (xl ≤ yl) = false := decide_eq_false h4
                  rw [if_neg h4] at HL
                  obtain ⟨q, hq, hr⟩ := Option.bind_eq_some_iff.mp HL
                  rw [← i64_w] at hq
                  have HQ := Aside0.mk (fun W => dyn_way.calls k xa xb a b ya yb _ _ q W hq)
                  have HRR := Aside0.mk hr
                  clear HL hr hq h4
                  go_wp2
                  go_region_held3 (fun w' => w'.cell? ⟨w.heap.size, 0, none⟩ = some (.int .i64 a) ∧ w'.cell? ⟨w.heap.size, 1, none⟩ = some (.int .i64 b) ∧ w'.cell? ⟨w3.heap.size + 1, 0, none⟩ = some (.int .i64 xa) ∧ w'.cell? ⟨w3.heap.size + 1, 1, none⟩ = some (.int .i64 xb) ∧ w'.cell? ⟨w3.heap.size + 1, 2, none⟩ = some (.int .i64 xl) ∧ w'.cell? ⟨w3.heap.size + 1, 3, none⟩ = some (.bool true) ∧ w'.cell? ⟨w3.heap.size, 0, none⟩ = some (.int .i64 ya) ∧ w'.cell? ⟨w3.heap.size, 1, none⟩ = some (.int .i64 yb) ∧ w'.cell? ⟨w3.heap.size, 2, none⟩ = some (.int .i64 yl) ∧ w'.cell? ⟨w3.heap.size, 3, none⟩ = some (.bool yh)) (go_keep) ((go_at_call 28; (with_reducible refine (HQ.out _).mono ?_); rintro e w4 ⟨rfl, hb4⟩; obtain ⟨hc9, hf9⟩ := bcell hb4; have BX := blk_below (blk_drew (blk_drew (blk_alloc (blk_new w3 (.cells #[.int .i64 ya, .int .i64 yb, .int .i64 yl, .bool yh] 36)) _))) hb4; have z0 : w4.cell? ⟨w3.heap.size, 0, none⟩ = some (.int .i64 ya) := (blk_cell BX 0).trans rfl; have z1 : w4.cell? ⟨w3.heap.size, 1, none⟩ = some (.int .i64 yb) := (blk_cell BX 1).trans rfl; have z2 : w4.cell? ⟨w3.heap.size, 2, none⟩ = some (.int .i64 yl) := (blk_cell BX 2).trans rfl; have z3 : w4.cell? ⟨w3.heap.size, 3, none⟩ = some (.bool yh) := (blk_cell BX 3).trans rfl; clear BX))
                  obtain ⟨rfl, rfl⟩ : wrap64 (xl - q) = r1 ∧ (0 : Int) = r2 := by simpa using HRR.out
                  go_wp2
                  go_ret2
                  exact ⟨by first | rfl | (simp only [i64_w]; done) | (simp only [i64_w]; rfl), (by repeat (first | exact HB3.out | apply below_alloc | apply pw_below_drewN | apply below_drew1) : Below w.heap.size w _).trans (hb4.mono (by simp; omega))⟩
      · rw [if_neg hp] at h
        obtain ⟨rfl, rfl⟩ : (0 : Int) = r1 ∧ (2 : Int) = r2 := by simpa using h
        have HP := Aside0.mk (fun W => placed_any a b false W (by cases h1 : rightB a b <;> simp [h1] at hp ⊢; omega))
        clear hp h
        go_enter Try.func15, Try.ntmps15
        go_wp2_with (first
          | (go_at_call 13; (with_reducible refine (HC.out _ ?hb1).mono ?_); (case hb1 => (repeat (first | exact HB.out | apply below_alloc))); rintro e w1 ⟨rfl, hb⟩; have B0 := Aside0.mk (blk_below (blk_new w (.cells #[.int .i64 a, .int .i64 b] 29)) hb); have hc0 : w1.cell? ⟨w.heap.size, 0, none⟩ = some (.int .i64 a) := (blk_cell B0.out 0).trans rfl; have hc1 : w1.cell? ⟨w.heap.size, 1, none⟩ = some (.int .i64 b) := (blk_cell B0.out 1).trans rfl; have HB1 := Aside0.mk ((by repeat (first | exact HB.out | apply below_alloc) : Below w.heap.size w _).trans (hb.mono (by simp))); clear hb)
          | (go_at_call 23; (with_reducible refine (HP.out _).mono ?_); rintro e w2 ⟨rfl, hb⟩))
        go_ret2
        exact ⟨rfl, HB1.out.trans (hb.mono HB1.out.size)⟩
    · simp only [hc2, if_false] at h
      obtain ⟨rfl, rfl⟩ : (0 : Int) = r1 ∧ c2 = r2 := by simpa using h
      have e2 : (c2 != 0) = true := bne_iff_ne.mpr hc2
      clear hc2 h
      go_enter Try.func15, Try.ntmps15
      go_wp2_with (go_at_call 13; (with_reducible refine (HC.out _ ?hb1).mono ?_); (case hb1 => (repeat (first | exact HB.out | apply below_alloc))); rintro e w1 ⟨rfl, hb⟩)
      go_ret2
      exact ⟨rfl, (by repeat (first | exact HB.out | apply below_alloc) : Below w.heap.size w _).trans (hb.mono (by simp))⟩
  next => cases h

-- NOT PRINTED: function 46 (slices_IndexFunc_int_int)

-- NOT PRINTED: function 30 (slices_ContainsFunc_int_int)

/-! ### slices_Index_int_int: function 47 -/
def slices_Index_int_int.l0 : Nat → List Int → Int → Int → Int → Option (Int)
  | 0, _, _, _, _ => none
  | k + 1, x0, x1, x7, x8 => if x8 < x7 then (if 0 ≤ x8 then (if x8 < (x0.length : Int) then (if x1 = (rd x0 x8) then (some x8) else (slices_Index_int_int.l0 k x0 x1 x7 (wrap64 (x8 + 1)))) else (none)) else (none)) else (some (-1))
def slices_Index_int_int.f (k : Nat) (l0 : List Int) (a1 : Int) : Option (Int) := slices_Index_int_int.l0 k l0 a1 (l0.length : Int) 0
theorem slices_Index_int_int.mono_l : ∀ k, (∀ y0 y1 y2 y3, LeO (slices_Index_int_int.l0 k y0 y1 y2 y3) (slices_Index_int_int.l0 (k + 1) y0 y1 y2 y3))
  | 0 => fun _ _ _ _ r h => by simp [slices_Index_int_int.l0] at h
  | k + 1 => by
    have ih0 := slices_Index_int_int.mono_l k
    · intro y0 y1 y2 y3
      unfold slices_Index_int_int.l0
      repeat' first
      | (with_reducible exact ih0 _ _ _ _)
      | (with_reducible exact LeO.refl _)
      | (with_reducible exact LeO.none _)
      | (with_reducible refine LeO.ite ?_ ?_)
      | (with_reducible refine LeO.bind ?_ (fun _ => ?_))
      | exact ih0 _ _ _ _
      | exact LeO.none _
      | refine LeO.ite ?_ ?_
      | refine LeO.bind ?_ (fun _ => ?_)
theorem slices_Index_int_int.mono : ∀ a0 a1 k, LeO (slices_Index_int_int.f k a0 a1) (slices_Index_int_int.f (k + 1) a0 a1) := by
  intro a0 a1 k
  have ih0 := slices_Index_int_int.mono_l k
  unfold slices_Index_int_int.f
  repeat' first
      | (with_reducible exact ih0 _ _ _ _)
      | (with_reducible exact LeO.refl _)
      | (with_reducible exact LeO.none _)
      | (with_reducible refine LeO.ite ?_ ?_)
      | (with_reducible refine LeO.bind ?_ (fun _ => ?_))
      | exact ih0 _ _ _ _
      | exact LeO.none _
      | refine LeO.ite ?_ ?_
      | refine LeO.bind ?_ (fun _ => ?_)
set_option maxHeartbeats 8000000 in
set_option maxRecDepth 100000 in
theorem slices_Index_int_int.calls (k : Nat) (A0 : Option Addr) (c0 : Nat) (l0 : List Int) (a1 : Int) (r : Int) (w : World) (hr0 : Kd.C (Kd.int .i64) w A0 l0.length l0) (hc0 : l0.length ≤ c0) (h : slices_Index_int_int.f k l0 a1 = some r) :
    Calls Try.prog 47 #[.slice A0 l0.length c0, .int .i64 a1] w fun e w' => e = .returned (.int .i64 r) ∧ Drawn0 w w' := by
  have HR0 := Aside0.mk hr0
  have HC0 := Aside0.mk hc0
  clear hr0 hc0
  have H : (slices_Index_int_int.l0 k l0 a1 (l0.length : Int) 0) = some r := h
  clear h
  have H' := Aside0.mk H
  clear H
  go_enter Try.func47, Try.ntmps47
  go_wp2
  go_loopg [8] k (fun kq v8 w' => ∃ (x8_1 : Int), v8 = .int .i64 x8_1 ∧ Aside0 (slices_Index_int_int.l0 kq l0 a1 (l0.length : Int) x8_1 = some r) ∧ Aside0 (kq ≤ k) ∧ Drawn0 w w')
  case atStart => exact ⟨(0), (by first | rfl | (simp; done) | (simp [*]; done)), H', ⟨Nat.le_refl _⟩, by repeat (first | exact Drawn0.refl _ | apply Drawn0.step)⟩
  case round =>
    clear H'
    try clear p2
    obtain ⟨x8_1, rfl, HA, HK1, ⟨m1, rfl⟩⟩ := hrel
    cases gk with
    | zero => exact absurd HA.out (by simp [slices_Index_int_int.l0])
    | succ k1 =>
      have H := HA.out
      clear HA
      simp only [slices_Index_int_int.l0] at H
      by_cases c3 : x8_1 < (l0.length : Int)
      · rw [if_pos c3] at H
        have c3b0 : decide (x8_1 < (l0.length : Int)) = true := decide_eq_true c3
        clear c3
        by_cases c4 : 0 ≤ x8_1
        · rw [if_pos c4] at H
          have c4b0 : decide (0 ≤ x8_1) = true := decide_eq_true c4
          clear c4
          by_cases c5 : x8_1 < (l0.length : Int)
          · rw [if_pos c5] at H
            have c5b0 : decide (x8_1 < (l0.length : Int)) = true := decide_eq_true c5
            clear c5
            by_cases c6 : a1 = (rd l0 x8_1)
            · rw [if_pos c6] at H
              have c6b0 : (a1 == (rd l0 x8_1)) = true := beq_iff_eq.mpr c6
              have c6b1 : (a1 != (rd l0 x8_1)) = false := bne_eq_false_iff_eq.mpr c6
              clear c6
              obtain rfl := Option.some.inj H
              have p136 : 0 ≤ (x8_1 : Int) := of_decide_eq_true (by first | (with_reducible assumption) | assumption)
              have q136 : x8_1 < (l0.length : Int) := of_decide_eq_true (by first | (with_reducible assumption) | assumption)
              obtain ⟨ad136, e136, hx136_0⟩ := Kd.at_int HR0.out x8_1 p136 q136
              cases e136
              replace p136 := eq_true p136
              replace q136 := eq_true q136
              go_wp2
              go_ret
              exact ⟨by first | rfl | (simp; done) | (simp [*]; done), by repeat (first | exact Drawn0.refl _ | apply Drawn0.step)⟩
            · rw [if_neg c6] at H
              have c6b0 : (a1 == (rd l0 x8_1)) = false := beq_eq_false_iff_ne.mpr c6
              have c6b1 : (a1 != (rd l0 x8_1)) = true := bne_iff_ne.mpr c6
              have H' := Aside0.mk H
              clear H
              have p136 : 0 ≤ (x8_1 : Int) := of_decide_eq_true (by first | (with_reducible assumption) | assumption)
              have q136 : x8_1 < (l0.length : Int) := of_decide_eq_true (by first | (with_reducible assumption) | assumption)
              obtain ⟨ad136, e136, hx136_0⟩ := Kd.at_int HR0.out x8_1 p136 q136
              cases e136
              replace p136 := eq_true p136
              replace q136 := eq_true q136
              go_wp2
              go_roundg k1
              case measure => have := HK1.out; omega
              case rel => exact ⟨(wrap64 (x8_1 + 1)), (by first | rfl | (simp; done) | (simp [*]; done)), H', ⟨by have := HK1.out; omega⟩, by repeat (first | exact Drawn0.refl _ | apply Drawn0.step)⟩
          · rw [if_neg c5] at H
            exact absurd H (by simp)
        · rw [if_neg c4] at H
          exact absurd H (by simp)
      · rw [if_neg c3] at H
        have c3b0 : decide (x8_1 < (l0.length : Int)) = false := decide_eq_false c3
        clear c3
        obtain rfl := Option.some.inj H
        go_wp2
        go_ret
        exact ⟨by first | rfl | (simp; done) | (simp [*]; done), by repeat (first | exact Drawn0.refl _ | apply Drawn0.step)⟩

/-! ### slices_Contains_int_int: function 32 -/
def slices_Contains_int_int.f (k : Nat) (l0 : List Int) (a1 : Int) : Option (Bool) := (slices_Index_int_int.f k l0 a1).bind fun t137 => (some (decide (t137 ≥ 0)))
theorem slices_Contains_int_int.mono : ∀ a0 a1 k, LeO (slices_Contains_int_int.f k a0 a1) (slices_Contains_int_int.f (k + 1) a0 a1) := by
  intro a0 a1 k
  unfold slices_Contains_int_int.f
  repeat' first
      | (with_reducible exact slices_Index_int_int.mono _ _ _)
      | (with_reducible exact LeO.refl _)
      | (with_reducible exact LeO.none _)
      | (with_reducible refine LeO.ite ?_ ?_)
      | (with_reducible refine LeO.bind ?_ (fun _ => ?_))
      | exact slices_Index_int_int.mono _ _ _
      | exact LeO.none _
      | refine LeO.ite ?_ ?_
      | refine LeO.bind ?_ (fun _ => ?_)
set_option maxHeartbeats 8000000 in
set_option maxRecDepth 100000 in
theorem slices_Contains_int_int.calls (k : Nat) (A0 : Option Addr) (c0 : Nat) (l0 : List Int) (a1 : Int) (r : Bool) (w : World) (hr0 : Kd.C (Kd.int .i64) w A0 l0.length l0) (hc0 : l0.length ≤ c0) (h : slices_Contains_int_int.f k l0 a1 = some r) :
    Calls Try.prog 32 #[.slice A0 l0.length c0, .int .i64 a1] w fun e w' => e = .returned (.bool r) ∧ Drawn0 w w' := by
  have HR0 := Aside0.mk hr0
  have HC0 := Aside0.mk hc0
  clear hr0 hc0
  have H : ((slices_Index_int_int.f k l0 a1).bind fun t137 => (some (decide (t137 ≥ 0)))) = some r := h
  clear h
  replace H := Option.bind_eq_some_iff.mp H
  obtain ⟨t137, A30, H⟩ := H
  replace H : (some (decide (t137 ≥ 0))) = some r := H
  have A3 := Aside0.mk A30
  clear A30
  obtain rfl := Option.some.inj H
  go_enter Try.func32, Try.ntmps32
  go_wp2_with (first | ((with_reducible refine gate_callee (f := 47) rfl ?_); refine goesL_ (some 7) rfl rfl Try.func47 (by kernel_rfl) rfl #[.slice A0 l0.length c0, .int .i64 a1] rfl (by (try simp only [List.map_toArray, List.map_cons, List.map_nil]); first | done | rfl | (simp only [List.length_drop, List.length_take]; rfl)) ?_; (with_reducible refine (slices_Index_int_int.calls k _ _ l0 a1 t137 _ ?side1 ?side2 A3.out).mono ?_); (case side1 => repeat (first | exact HR0.out | (with_reducible refine Kd.C_alloc ?_ _) | (with_reducible refine Kd.C_drewN ?_ _) | (with_reducible refine Kd.C_drew ?_))); (case side2 => exact HC0.out); rintro e w' ⟨rfl, ⟨nd, rfl⟩⟩; refine ⟨_, rfl, ?_⟩))
  go_ret
  exact ⟨by first | rfl | (simp; done) | (simp [*]; done), by repeat (first | exact Drawn0.refl _ | apply Drawn0.step)⟩

/-! ### dyn_Velocity: function 17 -/
def badMark (m : Int) : Bool := decide (m < 1) || decide (4 < m)
set_option maxRecDepth 100000 in
theorem badMark_any (m : Int) (w : World) : Calls Try.prog 31 #[.int .i64 m] w fun e w' => e = .returned (.bool (badMark m)) ∧ Below w.heap.size w w' := by
  unfold badMark
  by_cases h1 : m < 1
  · have d1 : decide (m < 1) = true := decide_eq_true h1
    rw [d1, Bool.true_or]
    clear h1
    go_enter Try.func31, Try.ntmps31
    go_wp2
    go_ret
    exact ⟨rfl, Below.refl _ _⟩
  · have d1 : decide (m < 1) = false := decide_eq_false h1
    rw [d1, Bool.false_or]
    clear h1
    go_enter Try.func31, Try.ntmps31
    go_wp2
    go_ret
    exact ⟨rfl, Below.refl _ _⟩
/-- The first index at which p holds; -1. -/
def idxZ (p : Int → Bool) : List Int → Int
  | [] => -1
  | d :: l => if p d = true then 0 else if idxZ p l = -1 then -1 else idxZ p l + 1
theorem idxZ_ge (p : Int → Bool) (l : List Int) : -1 ≤ idxZ p l := by
  induction l with
  | nil => simp [idxZ]
  | cons d l ih => simp only [idxZ]; split <;> (try split) <;> omega
theorem idxZ_iff (p : Int → Bool) (l : List Int) : 0 ≤ idxZ p l ↔ l.any p = true := by
  induction l with
  | nil => simp [idxZ]
  | cons d l ih =>
    have := idxZ_ge p l
    show (0 ≤ if p d = true then 0 else if idxZ p l = -1 then -1 else idxZ p l + 1) ↔ _
    rw [List.any_cons, Bool.or_eq_true, ← ih]
    by_cases hp : p d = true
    · rw [if_pos hp]; simp [hp]
    · rw [if_neg hp]
      by_cases h1 : idxZ p l = -1
      · rw [if_pos h1, h1]; simp [hp]
      · rw [if_neg h1]; simp only [hp]; constructor
        · intro _; right; omega
        · intro _; omega
theorem idxZ_any (p : Int → Bool) (l : List Int) : decide (0 ≤ idxZ p l) = l.any p := by
  rw [Bool.eq_iff_iff, decide_eq_true_iff]; exact idxZ_iff p l
def idxZFrom (p : Int → Bool) (k : Nat) (l : List Int) : Int := if idxZ p l = -1 then -1 else idxZ p l + k
theorem idxZFrom_step (p : Int → Bool) (l : List Int) (k : Nat) (h : k < l.length) : idxZFrom p k (l.drop k) = if p (rd l k) = true then (k : Int) else idxZFrom p (k + 1) (l.drop (k + 1)) := by
  rw [List.drop_eq_getElem_cons h]
  have e : rd l (k : Int) = l[k] := by simp [rd, List.getD, h]
  rw [e]
  unfold idxZFrom
  simp only [idxZ]
  have := idxZ_ge p (l.drop (k + 1))
  by_cases hp : p l[k] = true
  · simp [hp]
  · simp only [hp, if_false, Bool.false_eq_true]
    by_cases h1 : idxZ p (l.drop (k + 1)) = -1
    · simp [h1]
    · rw [if_neg h1, if_neg (by omega), if_neg h1]
      push_cast
      omega
set_option maxHeartbeats 1000000 in
set_option maxRecDepth 100000 in
theorem IndexFuncZ_any (g : Nat) (eg : ∀ args w, (callFunc g args).run Try.prog w = .ok (.enter g args) w) (lb : Array Value) (p : Int → Bool) (A : Option Addr) (c : Nat) (l : List Int) (w : World) (hr : Kd.C (Kd.int .i64) w A l.length l) (hc : l.length ≤ c) (hlen : l.length ≤ 1000)
    (hP : ∀ (d : Int) (W : World), Below w.heap.size w W → Calls Try.prog g (#[.int .i64 d] ++ lb) W fun e W' => e = .returned (.bool (p d)) ∧ Below W.heap.size W W') :
    Calls Try.prog 46 #[.slice A l.length c, .func (.func g) #[] lb] w fun e w' => e = .returned (.int .i64 (idxZ p l)) ∧ Below w.heap.size w w' := by
  have hres : idxZFrom p 0 (l.drop 0) = idxZ p l := by unfold idxZFrom; split <;> simp_all
  have HRES := Aside0.mk hres
  generalize idxZ p l = r at *
  have HR := Aside0.mk hr
  have HP := Aside0.mk hP
  have HB := Aside0.mk (Below.refl w.heap.size w)
  clear hr hP hres
  go_enter Try.func46, Try.ntmps46
  go_wp2
  go_loopw [8] (fun i wr => ∃ k : Nat, i = .int .i64 k ∧ k ≤ l.length ∧ Aside0 (idxZFrom p k (l.drop k) = r) ∧ Aside0 (Below w.heap.size w wr)) (fun i _ => l.length - (intOf i).toNat)
  case atStart => exact ⟨0, rfl, by omega, HRES, HB⟩
  case round =>
    obtain ⟨k, rfl, hk, HT, HB2⟩ := hrel
    clear HRES
    by_cases hlt : k < l.length
    · have h2 := HT.out
      rw [idxZFrom_step p l k hlt] at h2
      have H2 := Aside0.mk h2
      obtain ⟨ad, rfl, x0⟩ := Kd.at_int HR.out (k : Int) (by omega) (by omega)
      have y0 := (HB2.out.cell (World.block_lt_of_cell? w _ x0)).trans x0
      rw [Int.toNat_natCast] at y0
      have M := Aside0.mk (HP.out (rd l k) wr HB2.out)
      clear h2 x0 HT
      generalize rd l (k : Int) = d at *
      have hltd : decide (k < l.length) = true := by simp; omega
      by_cases hp : p d = true
      · rw [hp] at M H2
        rw [if_pos rfl] at H2
        have HK := H2.out
        clear H2
        subst HK
        go_wp2_with (go_at_fn g; refine M.out.mono ?_; rintro e w1 ⟨rfl, hb⟩)
        go_ret
        exact ⟨rfl, HB2.out.trans (hb.mono HB2.out.size)⟩
      · replace hp := Bool.eq_false_iff.mpr hp
        rw [hp] at M H2
        rw [if_neg (by decide)] at H2
        go_wp2_with (go_at_fn g; refine M.out.mono ?_; rintro e w1 ⟨rfl, hb⟩)
        go_roundw
        case rel => exact ⟨k + 1, by go_num, by omega, H2, ⟨HB2.out.trans (hb.mono HB2.out.size)⟩⟩
        case measure => simp [intOf]; omega
    · have e : k = l.length := by omega
      subst e
      have h2 := HT.out
      rw [List.drop_length] at h2
      have HK : (-1 : Int) = r := h2
      clear h2 HT
      subst HK
      have hltd : decide (l.length < l.length) = false := by simp
      go_wp2
      go_ret
      exact ⟨rfl, HB2.out⟩
set_option maxRecDepth 100000 in
theorem ContainsFuncZ_any (g : Nat) (eg : ∀ args w, (callFunc g args).run Try.prog w = .ok (.enter g args) w) (p : Int → Bool) (A : Option Addr) (c : Nat) (l : List Int) (x : Bool) (w : World) (hr : Kd.C (Kd.int .i64) w A l.length l) (hc : l.length ≤ c) (hlen : l.length ≤ 1000)
    (hP : ∀ (d : Int) (W : World), Below w.heap.size w W → Calls Try.prog g #[.int .i64 d] W fun e W' => e = .returned (.bool (p d)) ∧ Below W.heap.size W W') (hx : l.any p = x) :
    Calls Try.prog 30 #[.slice A l.length c, .func (.func g) #[] #[]] w fun e w' => e = .returned (.bool x) ∧ Below w.heap.size w w' := by
  have M := Aside0.mk (IndexFuncZ_any g eg #[] p A c l w hr hc hlen hP)
  have h := idxZ_any p l
  rw [hx] at h
  generalize idxZ p l = r at *
  clear hx hr hP
  go_enter Try.func30, Try.ntmps30
  go_wp2_with (go_at_call 46; (with_reducible refine M.out.mono ?_); rintro e w1 ⟨rfl, hb⟩)
  go_ret
  exact ⟨rfl, hb⟩
def dyn_Velocity.f (k : Nat) (l : List S36) (a b : Int) (ms : List Int) : Option (Int × Int) :=
  if ms.length ≤ 1000 then
    (dyn_Level.f k l a b).bind fun c => if c.2 = 0 then (if ms.any badMark = true then some (0, 2) else
      (slices_Contains_int_int.f k ms 3).bind fun x => (slices_Contains_int_int.f k ms 2).bind fun y =>
        some (mn (if y = true then wrap64 ((if x = true then wrap64 (c.1 + 20) else c.1) + 5) else (if x = true then wrap64 (c.1 + 20) else c.1)) 127, 0)) else some (0, c.2)
  else none
theorem dyn_Velocity.mono : ∀ l a b m k, LeO (dyn_Velocity.f k l a b m) (dyn_Velocity.f (k + 1) l a b m) := by
  intro l a b m k
  unfold dyn_Velocity.f
  repeat' first
      | (with_reducible exact dyn_Level.mono _ _ _ _)
      | (with_reducible exact slices_Contains_int_int.mono _ _ _)
      | (with_reducible exact LeO.refl _)
      | (with_reducible exact LeO.none _)
      | (with_reducible refine LeO.ite ?_ ?_)
      | (with_reducible refine LeO.bind ?_ (fun _ => ?_))
      | exact LeO.none _
      | refine LeO.ite ?_ ?_
      | refine LeO.bind ?_ (fun _ => ?_)
set_option maxHeartbeats 2000000 in
set_option maxRecDepth 100000 in
theorem dyn_Velocity.calls (k : Nat) (A0 : Option Addr) (c0 : Nat) (l0 : List S36) (a b : Int) (A2 : Option Addr) (c2 : Nat) (l2 : List Int) (r1 r2 : Int) (w : World) (hr : Kd.C k36 w A0 l0.length l0) (hc : l0.length ≤ c0) (hr2 : Kd.C (Kd.int .i64) w A2 l2.length l2) (hc2 : l2.length ≤ c2) (h : dyn_Velocity.f k l0 a b l2 = some (r1, r2)) :
    Calls Try.prog 17 #[.slice A0 l0.length c0, .agg #[.int .i64 a, .int .i64 b], .slice A2 l2.length c2] w fun e w' => e = .returned (.tuple #[.int .i64 r1, .int .i64 r2]) ∧ Below w.heap.size w w' := by
  unfold dyn_Velocity.f at h
  split at h
  next hlen =>
    obtain ⟨⟨v, e⟩, hV, h⟩ := Option.bind_eq_some_iff.mp h
    have HV := Aside0.mk (fun W (hb : Below w.heap.size w W) => dyn_Level.calls k A0 c0 l0 a b v e W (Kd.C_below hr hb) hc hV)
    have HB := Aside0.mk (Below.refl w.heap.size w)
    have hu := Try.underlying29
    clear hV hr
    by_cases he : e = 0
    · simp only [he, if_true] at h
      subst he
      generalize hX : l2.any badMark = X at h
      have HX := Aside0.mk (fun W (hb : Below w.heap.size w W) => ContainsFuncZ_any 31 (enters_of Try.func31 (by kernel_rfl) rfl) badMark A2 c2 l2 X W (Kd.C_below hr2 hb) hc2 hlen (fun d W _ => badMark_any d W) hX)
      clear hX
      cases X
      · rw [if_neg (by decide)] at h
        obtain ⟨x, hx, h⟩ := Option.bind_eq_some_iff.mp h
        obtain ⟨y, hy, h⟩ := Option.bind_eq_some_iff.mp h
        have H3 := Aside0.mk (fun W (hb : Below w.heap.size w W) => slices_Contains_int_int.calls k A2 c2 l2 3 x W (Kd.C_below hr2 hb) hc2 hx)
        have H2 := Aside0.mk (fun W (hb : Below w.heap.size w W) => slices_Contains_int_int.calls k A2 c2 l2 2 y W (Kd.C_below hr2 hb) hc2 hy)
        clear hx hy hr2
        simp only [Option.some.injEq, Prod.mk.injEq] at h
        obtain ⟨h1, rfl⟩ := h
        have H1 := Aside0.mk h1
        clear h1
        cases x <;> cases y
        all_goals
          simp only [if_true, if_false, Bool.false_eq_true] at H1
          go_enter Try.func17, Try.ntmps17
          go_wp2_with (first
            | (go_at_call 15; (with_reducible refine (HV.out _ ?hb1).mono ?_); (case hb1 => (repeat (first | exact HB.out | apply below_alloc))); rintro e w1 ⟨rfl, hb⟩; have HB1 := Aside0.mk ((by repeat (first | exact HB.out | apply below_alloc) : Below w.heap.size w _).trans (hb.mono (by simp))); clear hb)
            | (go_at_call 30; (with_reducible refine (HX.out _ HB1.out).mono ?_); rintro e w2 ⟨rfl, hb⟩; have HB2 := Aside0.mk (HB1.out.trans (hb.mono HB1.out.size)); clear hb)
            | (go_at_call 32; (with_reducible refine (H3.out _ HB2.out).mono ?_); rintro e w3 ⟨rfl, ⟨n3, rfl⟩⟩)
            | (go_at_call 32; (with_reducible refine (H2.out _ ?hb4).mono ?_); (case hb4 => (repeat (first | exact HB2.out | apply pw_below_drewN | apply below_drew1))); rintro e w4 ⟨rfl, ⟨n4, rfl⟩⟩))
          all_goals
            go_ret2
            exact ⟨by rw [← H1.out]; unfold mn; (split <;> first | rfl | (exfalso; omega)), by repeat (first | exact HB2.out | apply pw_below_drewN | apply below_drew1)⟩
      · rw [if_pos rfl] at h
        obtain ⟨rfl, rfl⟩ : (0 : Int) = r1 ∧ (2 : Int) = r2 := by simpa using h
        clear h hr2
        go_enter Try.func17, Try.ntmps17
        go_wp2_with (first
          | (go_at_call 15; (with_reducible refine (HV.out _ ?hb1).mono ?_); (case hb1 => (repeat (first | exact HB.out | apply below_alloc))); rintro e w1 ⟨rfl, hb⟩; have HB1 := Aside0.mk ((by repeat (first | exact HB.out | apply below_alloc) : Below w.heap.size w _).trans (hb.mono (by simp))); clear hb)
          | (go_at_call 30; (with_reducible refine (HX.out _ HB1.out).mono ?_); rintro e w2 ⟨rfl, hb⟩; have HB2 := Aside0.mk (HB1.out.trans (hb.mono HB1.out.size)); clear hb))
        go_ret2
        exact ⟨rfl, HB2.out⟩
    · simp only [he, if_false] at h
      obtain ⟨rfl, rfl⟩ : (0 : Int) = r1 ∧ e = r2 := by simpa using h
      have e2 : (e != 0) = true := bne_iff_ne.mpr he
      clear he h hr2
      go_enter Try.func17, Try.ntmps17
      go_wp2_with (go_at_call 15; (with_reducible refine (HV.out _ ?hb1).mono ?_); (case hb1 => (repeat (first | exact HB.out | apply below_alloc))); rintro e w1 ⟨rfl, hb⟩; have HB1 := Aside0.mk ((by repeat (first | exact HB.out | apply below_alloc) : Below w.heap.size w _).trans (hb.mono (by simp))); clear hb)
      go_ret2
      exact ⟨rfl, HB1.out⟩
  next => cases h

/-! ### partitalaw12_hair: function 20 -/
def partitalaw12_hair.f (a0 : Int) (a1 : Int) : Option ((List (S36))) := some (([(⟨(⟨0, 1⟩ : S29), a0, true⟩ : S36), (⟨(⟨1, 1⟩ : S29), a1, false⟩ : S36)] : List (S36)))
set_option maxHeartbeats 8000000 in
set_option maxRecDepth 100000 in
theorem partitalaw12_hair.calls (a0 : Int) (a1 : Int) (r : List (S36)) (w : World) (h : partitalaw12_hair.f a0 a1 = some r) :
    Calls Try.prog 20 #[.int .i64 a0, .int .i64 a1] w fun e w' => ∃ v0_ : Value, e = .returned (v0_) ∧ Kd.R k36 36 w' w.heap.size (fun _ => True) v0_ r ∧ Below w.heap.size w w' := by
  have hu29 := Try.underlying29
  have hu36 := Try.underlying36
  have HB := Aside0.mk (Below.refl w.heap.size w)
  have H : (some (([(⟨(⟨0, 1⟩ : S29), a0, true⟩ : S36), (⟨(⟨1, 1⟩ : S29), a1, false⟩ : S36)] : List (S36)))) = some r := h
  clear h
  obtain ⟨y138, hy138⟩ : ∃ y_ : List (S36), y_ = (([(⟨(⟨0, 1⟩ : S29), a0, true⟩ : S36), (⟨(⟨1, 1⟩ : S29), a1, false⟩ : S36)] : List (S36))) := ⟨_, rfl⟩
  replace H : (some y138) = some r := by first | (rw [hy138]; with_reducible exact H) | (have H2_ := (Option.bind_some _ _).symm.trans H; rw [hy138]; with_reducible exact H2_) | (have H2_ := (Option.bind_some _ _).symm.trans H; with_reducible exact H2_) | with_reducible exact H | (rw [hy138]; exact H) | exact H
  have Ny138 := Aside0.mk hy138
  clear hy138
  obtain rfl := Option.some.inj H
  go_enter Try.func20, Try.ntmps20
  go_wp2_with (first | ((with_reducible refine gate_dst (N := 11) rfl ?_); refine Kd.R_lit k36 _ 36 ?hg (N := 11) ?hd (xs := ([(⟨(⟨0, 1⟩ : S29), a0, true⟩ : S36), (⟨(⟨1, 1⟩ : S29), a1, false⟩ : S36)] : List (S36))) (inner := [.int .i64 0, .int .i64 1, .int .i64 a0, .bool true, .int .i64 1, .int .i64 1, .int .i64 a1, .bool false]) (ok := fun _ => True) (okp := fun _ => True) ?hr ?hp (fun _ hk => hk) trivial (Below.refl _ _) (Nat.le_refl _) (by simp) ?_; (case hd => rfl); (case hg => rfl); (case hr => first | (go_simp; done) | (go_simp; rfl)); (case hp => exact (Reps.c4 (show Kd.M k36 _ _ _ (⟨(⟨0, 1⟩ : S29), a0, true⟩ : S36) [.int .i64 0, .int .i64 1, .int .i64 a0, .bool true] from (k36_mkM _ _ _ (⟨(⟨0, 1⟩ : S29), a0, true⟩ : S36) )) (Reps.c4 (show Kd.M k36 _ _ _ (⟨(⟨1, 1⟩ : S29), a1, false⟩ : S36) [.int .i64 1, .int .i64 1, .int .i64 a1, .bool false] from (k36_mkM _ _ _ (⟨(⟨1, 1⟩ : S29), a1, false⟩ : S36) )) (Reps.none _ _)))); intro v139 w3 ho4 hb hg_ hnew_; clear hg_ hnew_; (first | rw [← Ny138.out] at ho4 | (simp only [Int.reduceToNat] at ho4; rw [← Ny138.out] at ho4)); have n0_ := Aside0.mk (Kd.R_lower ho4 (below_size (by repeat (first | (with_reducible first | exact HB.out | apply below_alloc | apply pw_below_drewN | apply below_drew1) | exact HB.out)))); have n1_ := Aside0.mk (below_step (by repeat (first | (with_reducible first | exact HB.out | apply below_alloc | apply pw_below_drewN | apply below_drew1) | exact HB.out)) hb); clear HB; have HO140 := n0_; have HB := n1_; clear n0_ n1_; clear hb ho4))
  go_ret
  exact ⟨_, by first | rfl | (simp [errW_none, errW_some] <;> rfl) | (simp [*, errW_none, errW_some] <;> rfl), by (with_reducible repeat (first | apply Kd.R_alloc | apply Kd.R_drewN | apply Kd.R_drew)); exact HO140.out, by repeat (first | (with_reducible first | exact HB.out | apply below_alloc | apply pw_below_drewN | apply below_drew1) | exact HB.out)⟩

/-! ### partitalaw12_awake: function 12 -/
def partitalaw12_awake.f (k : Nat)  : Option (Bool) := (partitalaw12_hair.f 50 100).bind fun t141 => ((dyn_Level.f k t141 1 3).bind fun bt144 => ((partitalaw12_hair.f 100 50).bind fun t146 => ((dyn_Level.f k t146 1 3).bind fun bt149 => ((dyn_Velocity.f k ([] : List (S36)) 5 1 (([2, 3] : List Int))).bind fun bt154 => ((dyn_Check.f k (([(⟨(⟨0, 1⟩ : S29), 1, false⟩ : S36), (⟨(⟨0, 1⟩ : S29), 1, false⟩ : S36)] : List (S36)))).bind fun bt159 => (if bt144.1 = 66 then (if bt144.2 = 0 then (if bt149.1 = 83 then (if bt149.2 = 0 then (if bt154.1 = 105 then (if bt154.2 = 0 then (if bt159.1 = 1 then (some (bt159.2 == 120)) else none) else none) else none) else none) else none) else none) else none))))))
theorem partitalaw12_awake.mono : ∀ k, LeO (partitalaw12_awake.f k ) (partitalaw12_awake.f (k + 1) ) := by
  intro  k
  unfold partitalaw12_awake.f
  repeat' first
      | (with_reducible exact dyn_Check.mono _ _)
      | (with_reducible exact dyn_Level.mono _ _ _ _)
      | (with_reducible exact dyn_Velocity.mono _ _ _ _ _)
      | (with_reducible exact LeO.refl _)
      | (with_reducible exact LeO.none _)
      | (with_reducible refine LeO.ite ?_ ?_)
      | (with_reducible refine LeO.bind ?_ (fun _ => ?_))
      | exact dyn_Check.mono _ _
      | exact dyn_Level.mono _ _ _ _
      | exact dyn_Velocity.mono _ _ _ _ _
      | exact LeO.none _
      | refine LeO.ite ?_ ?_
      | refine LeO.bind ?_ (fun _ => ?_)
set_option maxHeartbeats 8000000 in
set_option maxRecDepth 100000 in
theorem partitalaw12_awake.calls (k : Nat)  (r : Bool) (w : World) (h : partitalaw12_awake.f k  = some r) :
    Calls Try.prog 12 #[] w fun e w' => e = .returned (.bool r) ∧ Below w.heap.size w w' := by
  have hu29 := Try.underlying29
  have hu36 := Try.underlying36
  have HB := Aside0.mk (Below.refl w.heap.size w)
  have H : ((partitalaw12_hair.f 50 100).bind fun t141 => ((dyn_Level.f k t141 1 3).bind fun bt144 => ((partitalaw12_hair.f 100 50).bind fun t146 => ((dyn_Level.f k t146 1 3).bind fun bt149 => ((dyn_Velocity.f k ([] : List (S36)) 5 1 (([2, 3] : List Int))).bind fun bt154 => ((dyn_Check.f k (([(⟨(⟨0, 1⟩ : S29), 1, false⟩ : S36), (⟨(⟨0, 1⟩ : S29), 1, false⟩ : S36)] : List (S36)))).bind fun bt159 => (if bt144.1 = 66 then (if bt144.2 = 0 then (if bt149.1 = 83 then (if bt149.2 = 0 then (if bt154.1 = 105 then (if bt154.2 = 0 then (if bt159.1 = 1 then (some (bt159.2 == 120)) else none) else none) else none) else none) else none) else none) else none))))))) = some r := h
  clear h
  replace H := Option.bind_eq_some_iff.mp H
  obtain ⟨t141, A10, H⟩ := H
  replace H : ((dyn_Level.f k t141 1 3).bind fun bt144 => ((partitalaw12_hair.f 100 50).bind fun t146 => ((dyn_Level.f k t146 1 3).bind fun bt149 => ((dyn_Velocity.f k ([] : List (S36)) 5 1 (([2, 3] : List Int))).bind fun bt154 => ((dyn_Check.f k (([(⟨(⟨0, 1⟩ : S29), 1, false⟩ : S36), (⟨(⟨0, 1⟩ : S29), 1, false⟩ : S36)] : List (S36)))).bind fun bt159 => (if bt144.1 = 66 then (if bt144.2 = 0 then (if bt149.1 = 83 then (if bt149.2 = 0 then (if bt154.1 = 105 then (if bt154.2 = 0 then (if bt159.1 = 1 then (some (bt159.2 == 120)) else none) else none) else none) else none) else none) else none) else none)))))) = some r := H
  have A1 := Aside0.mk A10
  clear A10
  replace H := Option.bind_eq_some_iff.mp H
  obtain ⟨⟨t144, t145⟩, A20, H⟩ := H
  replace H : ((partitalaw12_hair.f 100 50).bind fun t146 => ((dyn_Level.f k t146 1 3).bind fun bt149 => ((dyn_Velocity.f k ([] : List (S36)) 5 1 (([2, 3] : List Int))).bind fun bt154 => ((dyn_Check.f k (([(⟨(⟨0, 1⟩ : S29), 1, false⟩ : S36), (⟨(⟨0, 1⟩ : S29), 1, false⟩ : S36)] : List (S36)))).bind fun bt159 => (if t144 = 66 then (if t145 = 0 then (if bt149.1 = 83 then (if bt149.2 = 0 then (if bt154.1 = 105 then (if bt154.2 = 0 then (if bt159.1 = 1 then (some (bt159.2 == 120)) else none) else none) else none) else none) else none) else none) else none))))) = some r := H
  have A2 := Aside0.mk A20
  clear A20
  replace H := Option.bind_eq_some_iff.mp H
  obtain ⟨t146, A30, H⟩ := H
  replace H : ((dyn_Level.f k t146 1 3).bind fun bt149 => ((dyn_Velocity.f k ([] : List (S36)) 5 1 (([2, 3] : List Int))).bind fun bt154 => ((dyn_Check.f k (([(⟨(⟨0, 1⟩ : S29), 1, false⟩ : S36), (⟨(⟨0, 1⟩ : S29), 1, false⟩ : S36)] : List (S36)))).bind fun bt159 => (if t144 = 66 then (if t145 = 0 then (if bt149.1 = 83 then (if bt149.2 = 0 then (if bt154.1 = 105 then (if bt154.2 = 0 then (if bt159.1 = 1 then (some (bt159.2 == 120)) else none) else none) else none) else none) else none) else none) else none)))) = some r := H
  have A3 := Aside0.mk A30
  clear A30
  replace H := Option.bind_eq_some_iff.mp H
  obtain ⟨⟨t149, t150⟩, A40, H⟩ := H
  replace H : ((dyn_Velocity.f k ([] : List (S36)) 5 1 (([2, 3] : List Int))).bind fun bt154 => ((dyn_Check.f k (([(⟨(⟨0, 1⟩ : S29), 1, false⟩ : S36), (⟨(⟨0, 1⟩ : S29), 1, false⟩ : S36)] : List (S36)))).bind fun bt159 => (if t144 = 66 then (if t145 = 0 then (if t149 = 83 then (if t150 = 0 then (if bt154.1 = 105 then (if bt154.2 = 0 then (if bt159.1 = 1 then (some (bt159.2 == 120)) else none) else none) else none) else none) else none) else none) else none))) = some r := H
  have A4 := Aside0.mk A40
  clear A40
  obtain ⟨y151, hy151⟩ : ∃ y_ : List Int, y_ = (([2, 3] : List Int)) := ⟨_, rfl⟩
  replace H : ((dyn_Velocity.f k ([] : List (S36)) 5 1 y151).bind fun bt154 => ((dyn_Check.f k (([(⟨(⟨0, 1⟩ : S29), 1, false⟩ : S36), (⟨(⟨0, 1⟩ : S29), 1, false⟩ : S36)] : List (S36)))).bind fun bt159 => (if t144 = 66 then (if t145 = 0 then (if t149 = 83 then (if t150 = 0 then (if bt154.1 = 105 then (if bt154.2 = 0 then (if bt159.1 = 1 then (some (bt159.2 == 120)) else none) else none) else none) else none) else none) else none) else none))) = some r := by first | (rw [hy151]; with_reducible exact H) | (have H2_ := (Option.bind_some _ _).symm.trans H; rw [hy151]; with_reducible exact H2_) | (have H2_ := (Option.bind_some _ _).symm.trans H; with_reducible exact H2_) | with_reducible exact H | (rw [hy151]; exact H) | exact H
  have Ny151 := Aside0.mk hy151
  clear hy151
  replace H := Option.bind_eq_some_iff.mp H
  obtain ⟨⟨t154, t155⟩, A50, H⟩ := H
  replace H : ((dyn_Check.f k (([(⟨(⟨0, 1⟩ : S29), 1, false⟩ : S36), (⟨(⟨0, 1⟩ : S29), 1, false⟩ : S36)] : List (S36)))).bind fun bt159 => (if t144 = 66 then (if t145 = 0 then (if t149 = 83 then (if t150 = 0 then (if t154 = 105 then (if t155 = 0 then (if bt159.1 = 1 then (some (bt159.2 == 120)) else none) else none) else none) else none) else none) else none) else none)) = some r := H
  have A5 := Aside0.mk A50
  clear A50
  obtain ⟨y156, hy156⟩ : ∃ y_ : List (S36), y_ = (([(⟨(⟨0, 1⟩ : S29), 1, false⟩ : S36), (⟨(⟨0, 1⟩ : S29), 1, false⟩ : S36)] : List (S36))) := ⟨_, rfl⟩
  replace H : ((dyn_Check.f k y156).bind fun bt159 => (if t144 = 66 then (if t145 = 0 then (if t149 = 83 then (if t150 = 0 then (if t154 = 105 then (if t155 = 0 then (if bt159.1 = 1 then (some (bt159.2 == 120)) else none) else none) else none) else none) else none) else none) else none)) = some r := by first | (rw [hy156]; with_reducible exact H) | (have H2_ := (Option.bind_some _ _).symm.trans H; rw [hy156]; with_reducible exact H2_) | (have H2_ := (Option.bind_some _ _).symm.trans H; with_reducible exact H2_) | with_reducible exact H | (rw [hy156]; exact H) | exact H
  have Ny156 := Aside0.mk hy156
  clear hy156
  replace H := Option.bind_eq_some_iff.mp H
  obtain ⟨⟨t159, t160⟩, A60, H⟩ := H
  replace H : (if t144 = 66 then (if t145 = 0 then (if t149 = 83 then (if t150 = 0 then (if t154 = 105 then (if t155 = 0 then (if t159 = 1 then (some (t160 == 120)) else none) else none) else none) else none) else none) else none) else none) = some r := H
  have A6 := Aside0.mk A60
  clear A60
  by_cases c7 : t144 = 66
  · rw [if_pos c7] at H
    have c7b0 : (t144 == 66) = true := beq_iff_eq.mpr c7
    have c7b1 : (t144 != 66) = false := bne_eq_false_iff_eq.mpr c7
    clear c7
    by_cases c8 : t145 = 0
    · rw [if_pos c8] at H
      have c8b0 : (t145 == 0) = true := beq_iff_eq.mpr c8
      have c8b1 : (t145 != 0) = false := bne_eq_false_iff_eq.mpr c8
      clear c8
      by_cases c9 : t149 = 83
      · rw [if_pos c9] at H
        have c9b0 : (t149 == 83) = true := beq_iff_eq.mpr c9
        have c9b1 : (t149 != 83) = false := bne_eq_false_iff_eq.mpr c9
        clear c9
        by_cases c10 : t150 = 0
        · rw [if_pos c10] at H
          have c10b0 : (t150 == 0) = true := beq_iff_eq.mpr c10
          have c10b1 : (t150 != 0) = false := bne_eq_false_iff_eq.mpr c10
          clear c10
          by_cases c11 : t154 = 105
          · rw [if_pos c11] at H
            have c11b0 : (t154 == 105) = true := beq_iff_eq.mpr c11
            have c11b1 : (t154 != 105) = false := bne_eq_false_iff_eq.mpr c11
            clear c11
            by_cases c12 : t155 = 0
            · rw [if_pos c12] at H
              have c12b0 : (t155 == 0) = true := beq_iff_eq.mpr c12
              have c12b1 : (t155 != 0) = false := bne_eq_false_iff_eq.mpr c12
              clear c12
              by_cases c13 : t159 = 1
              · rw [if_pos c13] at H
                have c13b0 : (t159 == 1) = true := beq_iff_eq.mpr c13
                have c13b1 : (t159 != 1) = false := bne_eq_false_iff_eq.mpr c13
                clear c13
                obtain rfl := Option.some.inj H
                go_enter Try.func12, Try.ntmps12
                go_wp2_with (first | ((with_reducible refine gate_callee (f := 20) rfl ?_); refine goesL_ (some 10) rfl rfl Try.func20 (by kernel_rfl) rfl #[.int .i64 50, .int .i64 100] rfl (by (try simp only [List.map_toArray, List.map_cons, List.map_nil]); first | done | rfl | (simp only [List.length_drop, List.length_take]; rfl)) ?_; (with_reducible refine (partitalaw12_hair.calls 50 100 t141 _ A1.out).mono ?_); rintro e w14 ⟨v142, rfl, ho0, hb⟩; refine ⟨_, rfl, ?_⟩; have n0_ := Aside0.mk (Kd.R_lower ho0 (below_size (by repeat (first | (with_reducible first | exact HB.out | apply below_alloc | apply pw_below_drewN | apply below_drew1) | exact HB.out)))); have n1_ := Aside0.mk (below_step (by repeat (first | (with_reducible first | exact HB.out | apply below_alloc | apply pw_below_drewN | apply below_drew1) | exact HB.out)) hb); clear HB; have HO143 := n0_; have HB := n1_; clear n0_ n1_; (try clear hb); (try clear hb2); (try clear hk); (try clear hi); (try clear ho0); obtain ⟨Ao15, co15, eo15⟩ := Kd.R_slice HO143.out; subst eo15) | ((with_reducible refine gate_callee (f := 15) rfl ?_); refine goesL_ (some 12) rfl rfl Try.func15 (by kernel_rfl) rfl #[.slice Ao15 t141.length co15, .agg #[.int .i64 1, .int .i64 3]] rfl (by (try simp only [List.map_toArray, List.map_cons, List.map_nil]); first | done | rfl | (simp only [List.length_drop, List.length_take]; rfl)) ?_; (with_reducible refine (dyn_Level.calls k _ _ t141 1 3 t144 t145 _ ?side1 ?side2 A2.out).mono ?_); (case side1 => repeat (first | exact (Kd.R_reads' HO143.out).2.2 | (with_reducible refine Kd.C_alloc ?_ _) | (with_reducible refine Kd.C_drewN ?_ _) | (with_reducible refine Kd.C_drew ?_))); (case side2 => exact (Kd.R_reads' HO143.out).2.1); rintro e w16 ⟨rfl, hb⟩; refine ⟨_, rfl, ?_⟩; have n0_ := Aside0.mk (Kd.R_below (by (with_reducible repeat (first | apply Kd.R_alloc | apply Kd.R_drewN | apply Kd.R_drew)); exact HO143.out) hb); have n1_ := Aside0.mk (below_step (by repeat (first | (with_reducible first | exact HB.out | apply below_alloc | apply pw_below_drewN | apply below_drew1) | exact HB.out)) hb); clear HO143; clear HB; have HO143 := n0_; have HB := n1_; clear n0_ n1_; (try clear hb); (try clear hb2); (try clear hk); (try clear hi)) | ((with_reducible refine gate_callee (f := 20) rfl ?_); refine goesL_ (some 16) rfl rfl Try.func20 (by kernel_rfl) rfl #[.int .i64 100, .int .i64 50] rfl (by (try simp only [List.map_toArray, List.map_cons, List.map_nil]); first | done | rfl | (simp only [List.length_drop, List.length_take]; rfl)) ?_; (with_reducible refine (partitalaw12_hair.calls 100 50 t146 _ A3.out).mono ?_); rintro e w17 ⟨v147, rfl, ho0, hb⟩; refine ⟨_, rfl, ?_⟩; have n0_ := Aside0.mk (Kd.R_elder' (by (with_reducible repeat (first | apply Kd.R_alloc | apply Kd.R_drewN | apply Kd.R_drew)); exact HO143.out) (Kd.R_base ho0) hb); have n1_ := Aside0.mk (Kd.R_lower (Kd.R_new' ho0 (Kd.R_lt (by (with_reducible repeat (first | apply Kd.R_alloc | apply Kd.R_drewN | apply Kd.R_drew)); exact HO143.out))) (below_size (by repeat (first | (with_reducible first | exact HB.out | apply below_alloc | apply pw_below_drewN | apply below_drew1) | exact HB.out)))); have n2_ := Aside0.mk (below_step (by repeat (first | (with_reducible first | exact HB.out | apply below_alloc | apply pw_below_drewN | apply below_drew1) | exact HB.out)) hb); clear HO143; clear HB; have HO143 := n0_; have HO148 := n1_; have HB := n2_; clear n0_ n1_ n2_; (try clear hb); (try clear hb2); (try clear hk); (try clear hi); (try clear ho0); obtain ⟨Ao18, co18, eo18⟩ := Kd.R_slice HO148.out; subst eo18) | ((with_reducible refine gate_callee (f := 15) rfl ?_); refine goesL_ (some 18) rfl rfl Try.func15 (by kernel_rfl) rfl #[.slice Ao18 t146.length co18, .agg #[.int .i64 1, .int .i64 3]] rfl (by (try simp only [List.map_toArray, List.map_cons, List.map_nil]); first | done | rfl | (simp only [List.length_drop, List.length_take]; rfl)) ?_; (with_reducible refine (dyn_Level.calls k _ _ t146 1 3 t149 t150 _ ?side1 ?side2 A4.out).mono ?_); (case side1 => repeat (first | exact (Kd.R_reads' HO148.out).2.2 | (with_reducible refine Kd.C_alloc ?_ _) | (with_reducible refine Kd.C_drewN ?_ _) | (with_reducible refine Kd.C_drew ?_))); (case side2 => exact (Kd.R_reads' HO148.out).2.1); rintro e w19 ⟨rfl, hb⟩; refine ⟨_, rfl, ?_⟩; have n0_ := Aside0.mk (Kd.R_below (by (with_reducible repeat (first | apply Kd.R_alloc | apply Kd.R_drewN | apply Kd.R_drew)); exact HO143.out) hb); have n1_ := Aside0.mk (Kd.R_below (by (with_reducible repeat (first | apply Kd.R_alloc | apply Kd.R_drewN | apply Kd.R_drew)); exact HO148.out) hb); have n2_ := Aside0.mk (below_step (by repeat (first | (with_reducible first | exact HB.out | apply below_alloc | apply pw_below_drewN | apply below_drew1) | exact HB.out)) hb); clear HO143; clear HO148; clear HB; have HO143 := n0_; have HO148 := n1_; have HB := n2_; clear n0_ n1_ n2_; (try clear hb); (try clear hb2); (try clear hk); (try clear hi)) | ((with_reducible refine gate_dst (N := 23) rfl ?_); refine Kd.R_lit (Kd.int .i64) _ 3 ?hg (N := 23) ?hd (xs := ([2, 3] : List Int)) (inner := [.int .i64 2, .int .i64 3]) (ok := fun _ => True) (okp := fun _ => True) ?hr ?hp (fun _ hk => hk) trivial (Below.refl _ _) (Nat.le_refl _) (by simp) ?_; (case hd => rfl); (case hg => rfl); (case hr => first | (go_simp; done) | (go_simp; rfl)); (case hp => exact (Reps.one (show Kd.M (Kd.int .i64) _ _ _ 2 [.int .i64 2] from rfl) (Reps.one (show Kd.M (Kd.int .i64) _ _ _ 3 [.int .i64 3] from rfl) (Reps.none _ _)))); intro v152 w20 ho21 hb hg_ hnew_; clear hg_ hnew_; (first | rw [← Ny151.out] at ho21 | (simp only [Int.reduceToNat] at ho21; rw [← Ny151.out] at ho21)); have n0_ := Aside0.mk (Kd.R_below (by (with_reducible repeat (first | apply Kd.R_alloc | apply Kd.R_drewN | apply Kd.R_drew)); exact HO143.out) hb); have n1_ := Aside0.mk (Kd.R_below (by (with_reducible repeat (first | apply Kd.R_alloc | apply Kd.R_drewN | apply Kd.R_drew)); exact HO148.out) hb); have n2_ := Aside0.mk (Kd.R_lower ho21 (below_size (by repeat (first | (with_reducible first | exact HB.out | apply below_alloc | apply pw_below_drewN | apply below_drew1) | exact HB.out)))); have n3_ := Aside0.mk (below_step (by repeat (first | (with_reducible first | exact HB.out | apply below_alloc | apply pw_below_drewN | apply below_drew1) | exact HB.out)) hb); clear HO143; clear HO148; clear HB; have HO143 := n0_; have HO148 := n1_; have HO153 := n2_; have HB := n3_; clear n0_ n1_ n2_ n3_; clear hb ho21; obtain ⟨Ao22, co22, eo22⟩ := Kd.R_slice HO153.out; subst eo22) | ((with_reducible refine gate_callee (f := 17) rfl ?_); refine goesL_ (some 24) rfl rfl Try.func17 (by kernel_rfl) rfl #[.slice none 0 0, .agg #[.int .i64 5, .int .i64 1], .slice Ao22 y151.length co22] rfl (by (try simp only [List.map_toArray, List.map_cons, List.map_nil]); first | done | rfl | (simp only [List.length_drop, List.length_take]; rfl)) ?_; (refine (dyn_Velocity.calls k _ _ ([] : List (S36)) 5 1 _ _ y151 t154 t155 _ ?side1 ?side2 ?side3 ?side4 A5.out).mono ?_); (case side1 => exact Kd.C_nil _ _); (case side2 => exact Nat.le_refl _); (case side3 => repeat (first | exact (Kd.R_reads' HO153.out).2.2 | (with_reducible refine Kd.C_alloc ?_ _) | (with_reducible refine Kd.C_drewN ?_ _) | (with_reducible refine Kd.C_drew ?_))); (case side4 => exact (Kd.R_reads' HO153.out).2.1); rintro e w23 ⟨rfl, hb⟩; refine ⟨_, rfl, ?_⟩; have n0_ := Aside0.mk (Kd.R_below (by (with_reducible repeat (first | apply Kd.R_alloc | apply Kd.R_drewN | apply Kd.R_drew)); exact HO143.out) hb); have n1_ := Aside0.mk (Kd.R_below (by (with_reducible repeat (first | apply Kd.R_alloc | apply Kd.R_drewN | apply Kd.R_drew)); exact HO148.out) hb); have n2_ := Aside0.mk (Kd.R_below (by (with_reducible repeat (first | apply Kd.R_alloc | apply Kd.R_drewN | apply Kd.R_drew)); exact HO153.out) hb); have n3_ := Aside0.mk (below_step (by repeat (first | (with_reducible first | exact HB.out | apply below_alloc | apply pw_below_drewN | apply below_drew1) | exact HB.out)) hb); clear HO143; clear HO148; clear HO153; clear HB; have HO143 := n0_; have HO148 := n1_; have HO153 := n2_; have HB := n3_; clear n0_ n1_ n2_ n3_; (try clear hb); (try clear hb2); (try clear hk); (try clear hi)) | ((with_reducible refine gate_dst (N := 32) rfl ?_); refine Kd.R_lit k36 _ 36 ?hg (N := 32) ?hd (xs := ([(⟨(⟨0, 1⟩ : S29), 1, false⟩ : S36), (⟨(⟨0, 1⟩ : S29), 1, false⟩ : S36)] : List (S36))) (inner := [.int .i64 0, .int .i64 1, .int .i64 1, .bool false, .int .i64 0, .int .i64 1, .int .i64 1, .bool false]) (ok := fun _ => True) (okp := fun _ => True) ?hr ?hp (fun _ hk => hk) trivial (Below.refl _ _) (Nat.le_refl _) (by simp) ?_; (case hd => rfl); (case hg => rfl); (case hr => first | (go_simp; done) | (go_simp; rfl)); (case hp => exact (Reps.c4 (show Kd.M k36 _ _ _ (⟨(⟨0, 1⟩ : S29), 1, false⟩ : S36) [.int .i64 0, .int .i64 1, .int .i64 1, .bool false] from (k36_mkM _ _ _ (⟨(⟨0, 1⟩ : S29), 1, false⟩ : S36) )) (Reps.c4 (show Kd.M k36 _ _ _ (⟨(⟨0, 1⟩ : S29), 1, false⟩ : S36) [.int .i64 0, .int .i64 1, .int .i64 1, .bool false] from (k36_mkM _ _ _ (⟨(⟨0, 1⟩ : S29), 1, false⟩ : S36) )) (Reps.none _ _)))); intro v157 w24 ho25 hb hg_ hnew_; clear hg_ hnew_; (first | rw [← Ny156.out] at ho25 | (simp only [Int.reduceToNat] at ho25; rw [← Ny156.out] at ho25)); have n0_ := Aside0.mk (Kd.R_elder' (by (with_reducible repeat (first | apply Kd.R_alloc | apply Kd.R_drewN | apply Kd.R_drew)); exact HO143.out) (Kd.R_base ho25) hb); have n1_ := Aside0.mk (Kd.R_elder' (by (with_reducible repeat (first | apply Kd.R_alloc | apply Kd.R_drewN | apply Kd.R_drew)); exact HO148.out) (Kd.R_base ho25) hb); have n2_ := Aside0.mk (Kd.R_below (by (with_reducible repeat (first | apply Kd.R_alloc | apply Kd.R_drewN | apply Kd.R_drew)); exact HO153.out) hb); have n3_ := Aside0.mk (Kd.R_lower (Kd.R_new' (Kd.R_new' ho25 (Kd.R_lt (by (with_reducible repeat (first | apply Kd.R_alloc | apply Kd.R_drewN | apply Kd.R_drew)); exact HO143.out))) (Kd.R_lt (by (with_reducible repeat (first | apply Kd.R_alloc | apply Kd.R_drewN | apply Kd.R_drew)); exact HO148.out))) (below_size (by repeat (first | (with_reducible first | exact HB.out | apply below_alloc | apply pw_below_drewN | apply below_drew1) | exact HB.out)))); have n4_ := Aside0.mk (below_step (by repeat (first | (with_reducible first | exact HB.out | apply below_alloc | apply pw_below_drewN | apply below_drew1) | exact HB.out)) hb); clear HO143; clear HO148; clear HO153; clear HB; have HO143 := n0_; have HO148 := n1_; have HO153 := n2_; have HO158 := n3_; have HB := n4_; clear n0_ n1_ n2_ n3_ n4_; clear hb ho25; obtain ⟨Ao26, co26, eo26⟩ := Kd.R_slice HO158.out; subst eo26) | ((with_reducible refine gate_callee (f := 13) rfl ?_); refine goesL_ (some 33) rfl rfl Try.func13 (by kernel_rfl) rfl #[.slice Ao26 y156.length co26] rfl (by (try simp only [List.map_toArray, List.map_cons, List.map_nil]); first | done | rfl | (simp only [List.length_drop, List.length_take]; rfl)) ?_; (with_reducible refine (dyn_Check.calls k _ _ y156 t159 t160 _ ?side1 ?side2 A6.out).mono ?_); (case side1 => repeat (first | exact (Kd.R_reads' HO158.out).2.2 | (with_reducible refine Kd.C_alloc ?_ _) | (with_reducible refine Kd.C_drewN ?_ _) | (with_reducible refine Kd.C_drew ?_))); (case side2 => exact (Kd.R_reads' HO158.out).2.1); rintro e w27 ⟨rfl, hb⟩; refine ⟨_, rfl, ?_⟩; have n0_ := Aside0.mk (Kd.R_below (by (with_reducible repeat (first | apply Kd.R_alloc | apply Kd.R_drewN | apply Kd.R_drew)); exact HO143.out) hb); have n1_ := Aside0.mk (Kd.R_below (by (with_reducible repeat (first | apply Kd.R_alloc | apply Kd.R_drewN | apply Kd.R_drew)); exact HO148.out) hb); have n2_ := Aside0.mk (Kd.R_below (by (with_reducible repeat (first | apply Kd.R_alloc | apply Kd.R_drewN | apply Kd.R_drew)); exact HO153.out) hb); have n3_ := Aside0.mk (Kd.R_below (by (with_reducible repeat (first | apply Kd.R_alloc | apply Kd.R_drewN | apply Kd.R_drew)); exact HO158.out) hb); have n4_ := Aside0.mk (below_step (by repeat (first | (with_reducible first | exact HB.out | apply below_alloc | apply pw_below_drewN | apply below_drew1) | exact HB.out)) hb); clear HO143; clear HO148; clear HO153; clear HO158; clear HB; have HO143 := n0_; have HO148 := n1_; have HO153 := n2_; have HO158 := n3_; have HB := n4_; clear n0_ n1_ n2_ n3_ n4_; (try clear hb); (try clear hb2); (try clear hk); (try clear hi)))
                go_ret
                exact ⟨by first | rfl | (simp [errW_none, errW_some] <;> rfl) | (simp [*, errW_none, errW_some] <;> rfl), by repeat (first | (with_reducible first | exact HB.out | apply below_alloc | apply pw_below_drewN | apply below_drew1) | exact HB.out)⟩
              · rw [if_neg c13] at H
                cases H
            · rw [if_neg c12] at H
              cases H
          · rw [if_neg c11] at H
            cases H
        · rw [if_neg c10] at H
          cases H
      · rw [if_neg c9] at H
        cases H
    · rw [if_neg c8] at H
      cases H
  · rw [if_neg c7] at H
    cases H
end Go.Proofs.Ytiifeheejapegaa.Q
