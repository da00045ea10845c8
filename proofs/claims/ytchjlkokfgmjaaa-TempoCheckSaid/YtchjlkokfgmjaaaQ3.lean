-- Written by a program of this session (myprint.py), function by function.
import Derived.Test.YtchjlkokfgmjaaaQ0
import Derived.Test.YtchjlkokfgmjaaaQ2
import Derived.BigRegion
import Derived.ChangeAlike
import Derived.IntWalk
import Derived.RegionTactic
import Derived.Shelf.Abstract
namespace Go.Proofs.Ytchjlkokfgmjaaa.Q
open Go.RowKit Go.Proofs.YtchjlkokfgmjaaaW.PrintWords Go.Proofs.YtchjlkokfgmjaaaW.PrintLast Go.Proofs.YtchjlkokfgmjaaaW.PrintMore
attribute [local go_sem] max2_int min2_int max_two min_two max_three min_three max_four min_four   -- for this text's walks alone
set_option linter.unusedVariables false
set_option linter.unusedSimpArgs false

/-! ### tempo_reach: function 27 -/
theorem wrap64_sm {n : Int} (h0 : 0 ≤ n) (h1 : n ≤ 4398046511104) : wrap64 n = n := by unfold wrap64; omega
abbrev LegT := Int × Int × Int × Bool × Int × Int × Int × Int × Int × Int
def legI (x : S36) (d s : Int × Int × Int) (more : Int) : LegT := (x.f0.f0, x.f0.f1, x.f1, x.f2, d.1, d.2.1, s.1, s.2.1, more, s.2.2)
def tempo_reach.f (k : Nat) (l : List S36) (i p q : Int) : Option LegT :=
  if 0 ≤ i ∧ i < l.length ∧ l.length ≤ 1001 then
    (ratio_Sub.f p q (rd_T36 l i).f0.f0 (rd_T36 l i).f0.f1).bind fun d =>
      if d.2.2 = 0 ∧ (rd_T36 l i).f2 = true ∧ i + 1 ≠ l.length then
        (ratio_Sub.f (rd_T36 l (i + 1)).f0.f0 (rd_T36 l (i + 1)).f0.f1 (rd_T36 l i).f0.f0 (rd_T36 l i).f0.f1).bind fun al =>
          if al.2.2 = 0 then (ratio_Div.f d.1 d.2.1 al.1 al.2.1).bind fun s => some (legI (rd_T36 l i) d s (wrap64 ((rd_T36 l (i + 1)).f1 - (rd_T36 l i).f1)))
          else some (legI (rd_T36 l i) d (0, 1, al.2.2) 0)
      else some (legI (rd_T36 l i) d (0, 1, d.2.2) 0)
  else none
/-- The blocks of reach: what is told, the leg. -/
structure L2 (W : World) (n : Nat) (cs : Array Value) : Prop where
  r : W.heap[n + 1]? = some (.cells #[.int .i64 0, .int .i64 0, .int .i64 0, .bool false, .int .i64 0, .int .i64 0, .int .i64 0, .int .i64 0, .int .i64 0] 51 (0, 0))
  x : W.heap[n + 1 + 1]? = some (.cells cs 51 (0, 0))
theorem L2.new (w : World) (o : Obj) (cs : Array Value) : L2 (((w.alloc o).alloc (.cells #[.int .i64 0, .int .i64 0, .int .i64 0, .bool false, .int .i64 0, .int .i64 0, .int .i64 0, .int .i64 0, .int .i64 0] 51)).alloc (.cells cs 51)) w.heap.size cs := by
  have h1 := blk_new (w.alloc o) (.cells #[.int .i64 0, .int .i64 0, .int .i64 0, .bool false, .int .i64 0, .int .i64 0, .int .i64 0, .int .i64 0, .int .i64 0] 51)
  have h2 := blk_new ((w.alloc o).alloc (.cells #[.int .i64 0, .int .i64 0, .int .i64 0, .bool false, .int .i64 0, .int .i64 0, .int .i64 0, .int .i64 0, .int .i64 0] 51)) (.cells cs 51)
  simp only [World.size_alloc] at h1 h2
  exact ⟨blk_alloc h1 _, h2⟩
theorem L2.step {W W1 : World} {n : Nat} {cs : Array Value} (h : L2 W n cs) (hb : Below W.heap.size W W1) : L2 W1 n cs := ⟨blk_below h.r hb, blk_below h.x hb⟩
set_option maxHeartbeats 4000000 in
set_option maxRecDepth 100000 in
theorem reach_err (A0 : Option Addr) (c0 : Nat) (l0 : List S36) (i p q d1 d2 d3 : Int) (w : World) (hr : Kd.C k36 w A0 l0.length l0) (hc : l0.length ≤ c0) (hi : 0 ≤ i) (hj : i < l0.length) (hlen : l0.length ≤ 1001)
    (hS : ratio_Sub.f p q (rd_T36 l0 i).f0.f0 (rd_T36 l0 i).f0.f1 = some (d1, d2, d3)) (hbr : d3 ≠ 0 ∨ (rd_T36 l0 i).f2 = false ∨ i + 1 = l0.length) :
    Calls Try.prog 27 #[.slice A0 l0.length c0, .int .i64 i, .agg #[.int .i64 p, .int .i64 q]] w fun e w' => e = .returned (.tuple #[.agg #[.int .i64 (rd_T36 l0 i).f0.f0, .int .i64 (rd_T36 l0 i).f0.f1, .int .i64 (rd_T36 l0 i).f1, .bool (rd_T36 l0 i).f2, .int .i64 d1, .int .i64 d2, .int .i64 0, .int .i64 1, .int .i64 0], .int .i64 d3]) ∧ Below w.heap.size w w' := by
  obtain ⟨ad, rfl, x0, x1, x2, x3⟩ := at_T36 hr i hi hj
  have HB := Aside0.mk (Below.refl w.heap.size w)
  have hu27 := Try.underlying27
  have hu36 := Try.underlying36
  have hu51 := Try.underlying51
  generalize rd_T36 l0 i = x at *
  obtain ⟨⟨xa, xb⟩, xm, xr⟩ := x
  simp only at hS hbr x0 x1 x2 x3 ⊢
  have HS := Aside0.mk (fun W => ratio_Sub.calls p q xa xb d1 d2 d3 W hS)
  have F0 := L2.new w (.cells #[.int .i64 p, .int .i64 q] 27) #[.int .i64 xa, .int .i64 xb, .int .i64 xm, .bool xr, .int .i64 0, .int .i64 0, .int .i64 0, .int .i64 1, .int .i64 0]
  have hw2 : Below w.heap.size w ((w.alloc (.cells #[.int .i64 p, .int .i64 q] 27)).alloc (.cells #[.int .i64 0, .int .i64 0, .int .i64 0, .bool false, .int .i64 0, .int .i64 0, .int .i64 0, .int .i64 0, .int .i64 0] 51)) := below_alloc (below_alloc HB.out _) _
  replace x0 := (hw2.cell (World.block_lt_of_cell? w _ x0)).trans x0
  replace x1 := (hw2.cell (World.block_lt_of_cell? w _ x1)).trans x1
  replace x2 := (hw2.cell (World.block_lt_of_cell? w _ x2)).trans x2
  replace x3 := (hw2.cell (World.block_lt_of_cell? w _ x3)).trans x3
  clear hS hr hw2
  by_cases h3 : d3 = 0
  · subst h3
    have e1 : ((0 : Int) != 0) = false := rfl
    cases xr
    · clear hbr
      go_enter Try.func27, Try.ntmps27
      go_wp2_with (fail)
      go_at_call 40
      (with_reducible refine (HS.out _).mono ?_)
      rintro e w1 ⟨rfl, hb⟩
      have F1 := Aside0.mk (F0.step hb)
      have HB1 := Aside0.mk ((by repeat (first | exact HB.out | apply below_alloc) : Below w.heap.size w _).trans (hb.mono (by simp; omega)))
      clear hb F0 x0 x1 x2 x3
      have hlt := blk_lt F1.out.x
      have c0_ : w1.cell? ⟨w.heap.size + 1 + 1, 0, none⟩ = some (.int .i64 xa) := (blk_cell F1.out.x 0).trans rfl
      have f0_ := blk_frozen F1.out.x 0
      have c1_ : w1.cell? ⟨w.heap.size + 1 + 1, 1, none⟩ = some (.int .i64 xb) := (blk_cell F1.out.x 1).trans rfl
      have f1_ := blk_frozen F1.out.x 1
      have c2_ : w1.cell? ⟨w.heap.size + 1 + 1, 2, none⟩ = some (.int .i64 xm) := (blk_cell F1.out.x 2).trans rfl
      have f2_ := blk_frozen F1.out.x 2
      have c3_ : w1.cell? ⟨w.heap.size + 1 + 1, 3, none⟩ = some (.bool false) := (blk_cell F1.out.x 3).trans rfl
      have f3_ := blk_frozen F1.out.x 3
      have c4_ : w1.cell? ⟨w.heap.size + 1 + 1, 4, none⟩ = some (.int .i64 0) := (blk_cell F1.out.x 4).trans rfl
      have f4_ := blk_frozen F1.out.x 4
      have c5_ : w1.cell? ⟨w.heap.size + 1 + 1, 5, none⟩ = some (.int .i64 0) := (blk_cell F1.out.x 5).trans rfl
      have f5_ := blk_frozen F1.out.x 5
      have c6_ : w1.cell? ⟨w.heap.size + 1 + 1, 6, none⟩ = some (.int .i64 0) := (blk_cell F1.out.x 6).trans rfl
      have f6_ := blk_frozen F1.out.x 6
      have c7_ : w1.cell? ⟨w.heap.size + 1 + 1, 7, none⟩ = some (.int .i64 1) := (blk_cell F1.out.x 7).trans rfl
      have f7_ := blk_frozen F1.out.x 7
      have c8_ : w1.cell? ⟨w.heap.size + 1 + 1, 8, none⟩ = some (.int .i64 0) := (blk_cell F1.out.x 8).trans rfl
      have f8_ := blk_frozen F1.out.x 8
      have g0_ : w1.cell? ⟨w.heap.size + 1, 0, none⟩ = some (.int .i64 0) := (blk_cell F1.out.r 0).trans rfl
      have k0_ := blk_frozen F1.out.r 0
      have g1_ : w1.cell? ⟨w.heap.size + 1, 1, none⟩ = some (.int .i64 0) := (blk_cell F1.out.r 1).trans rfl
      have k1_ := blk_frozen F1.out.r 1
      have g2_ : w1.cell? ⟨w.heap.size + 1, 2, none⟩ = some (.int .i64 0) := (blk_cell F1.out.r 2).trans rfl
      have k2_ := blk_frozen F1.out.r 2
      have g3_ : w1.cell? ⟨w.heap.size + 1, 3, none⟩ = some (.bool false) := (blk_cell F1.out.r 3).trans rfl
      have k3_ := blk_frozen F1.out.r 3
      have g4_ : w1.cell? ⟨w.heap.size + 1, 4, none⟩ = some (.int .i64 0) := (blk_cell F1.out.r 4).trans rfl
      have k4_ := blk_frozen F1.out.r 4
      have g5_ : w1.cell? ⟨w.heap.size + 1, 5, none⟩ = some (.int .i64 0) := (blk_cell F1.out.r 5).trans rfl
      have k5_ := blk_frozen F1.out.r 5
      have g6_ : w1.cell? ⟨w.heap.size + 1, 6, none⟩ = some (.int .i64 0) := (blk_cell F1.out.r 6).trans rfl
      have k6_ := blk_frozen F1.out.r 6
      have g7_ : w1.cell? ⟨w.heap.size + 1, 7, none⟩ = some (.int .i64 0) := (blk_cell F1.out.r 7).trans rfl
      have k7_ := blk_frozen F1.out.r 7
      have g8_ : w1.cell? ⟨w.heap.size + 1, 8, none⟩ = some (.int .i64 0) := (blk_cell F1.out.r 8).trans rfl
      have k8_ := blk_frozen F1.out.r 8
      have m1_ : w.heap.size + 1 ≠ w.heap.size + 1 + 1 := by omega
      have m2_ : w.heap.size + 1 + 1 ≠ w.heap.size + 1 := by omega
      have n1_ : w1.heap.size ≠ w.heap.size + 1 := by omega
      have n2_ : w1.heap.size ≠ w.heap.size + 1 + 1 := by omega
      have n3_ : w.heap.size + 1 ≠ w1.heap.size := by omega
      have n4_ : w.heap.size + 1 + 1 ≠ w1.heap.size := by omega
      have lr_ : w.heap.size ≤ w.heap.size + 1 := by omega
      have lx_ : w.heap.size ≤ w.heap.size + 1 + 1 := by omega
      have BR := Aside0.mk F1.out.r
      have BX := Aside0.mk F1.out.x
      clear F1
      generalize w.heap.size + 1 + 1 = nx at *
      generalize w.heap.size + 1 = nr at *
      have BR2 : ((((w1.setCell ⟨nx, 4, none⟩ (.int .i64 d1)).setCell ⟨nx, 5, none⟩ (.int .i64 d2)).alloc (.cells #[.int .i64 d1, .int .i64 d2] 27)).heap[nr]?) = _ := blk_alloc (blk_far (blk_far BR.out m1_ _) m1_ _) _
      have g0_ : (((w1.setCell ⟨nx, 4, none⟩ (.int .i64 d1)).setCell ⟨nx, 5, none⟩ (.int .i64 d2)).alloc (.cells #[.int .i64 d1, .int .i64 d2] 27)).cell? ⟨nr, 0, none⟩ = some (.int .i64 0) := (blk_cell BR2 0).trans rfl
      have k0_ := blk_frozen BR2 0
      have g1_ : (((w1.setCell ⟨nx, 4, none⟩ (.int .i64 d1)).setCell ⟨nx, 5, none⟩ (.int .i64 d2)).alloc (.cells #[.int .i64 d1, .int .i64 d2] 27)).cell? ⟨nr, 1, none⟩ = some (.int .i64 0) := (blk_cell BR2 1).trans rfl
      have k1_ := blk_frozen BR2 1
      have g2_ : (((w1.setCell ⟨nx, 4, none⟩ (.int .i64 d1)).setCell ⟨nx, 5, none⟩ (.int .i64 d2)).alloc (.cells #[.int .i64 d1, .int .i64 d2] 27)).cell? ⟨nr, 2, none⟩ = some (.int .i64 0) := (blk_cell BR2 2).trans rfl
      have k2_ := blk_frozen BR2 2
      have g3_ : (((w1.setCell ⟨nx, 4, none⟩ (.int .i64 d1)).setCell ⟨nx, 5, none⟩ (.int .i64 d2)).alloc (.cells #[.int .i64 d1, .int .i64 d2] 27)).cell? ⟨nr, 3, none⟩ = some (.bool false) := (blk_cell BR2 3).trans rfl
      have k3_ := blk_frozen BR2 3
      have g4_ : (((w1.setCell ⟨nx, 4, none⟩ (.int .i64 d1)).setCell ⟨nx, 5, none⟩ (.int .i64 d2)).alloc (.cells #[.int .i64 d1, .int .i64 d2] 27)).cell? ⟨nr, 4, none⟩ = some (.int .i64 0) := (blk_cell BR2 4).trans rfl
      have k4_ := blk_frozen BR2 4
      have g5_ : (((w1.setCell ⟨nx, 4, none⟩ (.int .i64 d1)).setCell ⟨nx, 5, none⟩ (.int .i64 d2)).alloc (.cells #[.int .i64 d1, .int .i64 d2] 27)).cell? ⟨nr, 5, none⟩ = some (.int .i64 0) := (blk_cell BR2 5).trans rfl
      have k5_ := blk_frozen BR2 5
      have g6_ : (((w1.setCell ⟨nx, 4, none⟩ (.int .i64 d1)).setCell ⟨nx, 5, none⟩ (.int .i64 d2)).alloc (.cells #[.int .i64 d1, .int .i64 d2] 27)).cell? ⟨nr, 6, none⟩ = some (.int .i64 0) := (blk_cell BR2 6).trans rfl
      have k6_ := blk_frozen BR2 6
      have g7_ : (((w1.setCell ⟨nx, 4, none⟩ (.int .i64 d1)).setCell ⟨nx, 5, none⟩ (.int .i64 d2)).alloc (.cells #[.int .i64 d1, .int .i64 d2] 27)).cell? ⟨nr, 7, none⟩ = some (.int .i64 0) := (blk_cell BR2 7).trans rfl
      have k7_ := blk_frozen BR2 7
      have g8_ : (((w1.setCell ⟨nx, 4, none⟩ (.int .i64 d1)).setCell ⟨nx, 5, none⟩ (.int .i64 d2)).alloc (.cells #[.int .i64 d1, .int .i64 d2] 27)).cell? ⟨nr, 8, none⟩ = some (.int .i64 0) := (blk_cell BR2 8).trans rfl
      have k8_ := blk_frozen BR2 8
      replace BR2 := Aside0.mk BR2
      go_wp2
      have H0 := BR2.out
      have H1 := blk_put (cs := #[.int .i64 0, .int .i64 0, .int .i64 0, .bool false, .int .i64 0, .int .i64 0, .int .i64 0, .int .i64 0, .int .i64 0]) (cs' := #[.int .i64 xa, .int .i64 0, .int .i64 0, .bool false, .int .i64 0, .int .i64 0, .int .i64 0, .int .i64 0, .int .i64 0]) H0 0 (.int .i64 xa) rfl
      have H2 := blk_put (cs := #[.int .i64 xa, .int .i64 0, .int .i64 0, .bool false, .int .i64 0, .int .i64 0, .int .i64 0, .int .i64 0, .int .i64 0]) (cs' := #[.int .i64 xa, .int .i64 xb, .int .i64 0, .bool false, .int .i64 0, .int .i64 0, .int .i64 0, .int .i64 0, .int .i64 0]) H1 1 (.int .i64 xb) rfl
      have H3 := blk_put (cs := #[.int .i64 xa, .int .i64 xb, .int .i64 0, .bool false, .int .i64 0, .int .i64 0, .int .i64 0, .int .i64 0, .int .i64 0]) (cs' := #[.int .i64 xa, .int .i64 xb, .int .i64 xm, .bool false, .int .i64 0, .int .i64 0, .int .i64 0, .int .i64 0, .int .i64 0]) H2 2 (.int .i64 xm) rfl
      have H4 := blk_put (cs := #[.int .i64 xa, .int .i64 xb, .int .i64 xm, .bool false, .int .i64 0, .int .i64 0, .int .i64 0, .int .i64 0, .int .i64 0]) (cs' := #[.int .i64 xa, .int .i64 xb, .int .i64 xm, .bool false, .int .i64 0, .int .i64 0, .int .i64 0, .int .i64 0, .int .i64 0]) H3 3 (.bool false) rfl
      have H5 := blk_put (cs := #[.int .i64 xa, .int .i64 xb, .int .i64 xm, .bool false, .int .i64 0, .int .i64 0, .int .i64 0, .int .i64 0, .int .i64 0]) (cs' := #[.int .i64 xa, .int .i64 xb, .int .i64 xm, .bool false, .int .i64 d1, .int .i64 0, .int .i64 0, .int .i64 0, .int .i64 0]) H4 4 (.int .i64 d1) rfl
      have H6 := blk_put (cs := #[.int .i64 xa, .int .i64 xb, .int .i64 xm, .bool false, .int .i64 d1, .int .i64 0, .int .i64 0, .int .i64 0, .int .i64 0]) (cs' := #[.int .i64 xa, .int .i64 xb, .int .i64 xm, .bool false, .int .i64 d1, .int .i64 d2, .int .i64 0, .int .i64 0, .int .i64 0]) H5 5 (.int .i64 d2) rfl
      have H7 := blk_put (cs := #[.int .i64 xa, .int .i64 xb, .int .i64 xm, .bool false, .int .i64 d1, .int .i64 d2, .int .i64 0, .int .i64 0, .int .i64 0]) (cs' := #[.int .i64 xa, .int .i64 xb, .int .i64 xm, .bool false, .int .i64 d1, .int .i64 d2, .int .i64 0, .int .i64 0, .int .i64 0]) H6 6 (.int .i64 0) rfl
      have H8 := blk_put (cs := #[.int .i64 xa, .int .i64 xb, .int .i64 xm, .bool false, .int .i64 d1, .int .i64 d2, .int .i64 0, .int .i64 0, .int .i64 0]) (cs' := #[.int .i64 xa, .int .i64 xb, .int .i64 xm, .bool false, .int .i64 d1, .int .i64 d2, .int .i64 0, .int .i64 1, .int .i64 0]) H7 7 (.int .i64 1) rfl
      have H9 := blk_put (cs := #[.int .i64 xa, .int .i64 xb, .int .i64 xm, .bool false, .int .i64 d1, .int .i64 d2, .int .i64 0, .int .i64 1, .int .i64 0]) (cs' := #[.int .i64 xa, .int .i64 xb, .int .i64 xm, .bool false, .int .i64 d1, .int .i64 d2, .int .i64 0, .int .i64 1, .int .i64 0]) H8 8 (.int .i64 0) rfl
      refine bodyPost_ret (results_ct rfl _ _ nr 51 #[.int .i64 xa, .int .i64 xb, .int .i64 xm, .bool false, .int .i64 d1, .int .i64 d2, .int .i64 0, .int .i64 1, .int .i64 0] (0, 0) _ rfl H9 Try.underlying51 rfl (by kernel_rfl)) rfl ?_
      exact ⟨rfl, (below_set (below_set (below_set (below_set (below_set (below_set (below_set (below_set (below_set (below_alloc (below_set (below_set HB1.out lx_) lx_) _) lr_) lr_) lr_) lr_) lr_) lr_) lr_) lr_) lr_)⟩
    · have hlast : i + 1 = l0.length := by simpa using hbr
      have e2 : (i + 1 == (l0.length : Int)) = true := beq_iff_eq.mpr hlast
      have e3 : IntKind.i64.wrap (i + 1) = i + 1 := by rw [IntKind.wrap_i64]; omega
      clear hbr
      go_enter Try.func27, Try.ntmps27
      go_wp2_with (fail)
      go_at_call 40
      (with_reducible refine (HS.out _).mono ?_)
      rintro e w1 ⟨rfl, hb⟩
      have F1 := Aside0.mk (F0.step hb)
      have HB1 := Aside0.mk ((by repeat (first | exact HB.out | apply below_alloc) : Below w.heap.size w _).trans (hb.mono (by simp; omega)))
      clear hb F0 x0 x1 x2 x3
      have hlt := blk_lt F1.out.x
      have c0_ : w1.cell? ⟨w.heap.size + 1 + 1, 0, none⟩ = some (.int .i64 xa) := (blk_cell F1.out.x 0).trans rfl
      have f0_ := blk_frozen F1.out.x 0
      have c1_ : w1.cell? ⟨w.heap.size + 1 + 1, 1, none⟩ = some (.int .i64 xb) := (blk_cell F1.out.x 1).trans rfl
      have f1_ := blk_frozen F1.out.x 1
      have c2_ : w1.cell? ⟨w.heap.size + 1 + 1, 2, none⟩ = some (.int .i64 xm) := (blk_cell F1.out.x 2).trans rfl
      have f2_ := blk_frozen F1.out.x 2
      have c3_ : w1.cell? ⟨w.heap.size + 1 + 1, 3, none⟩ = some (.bool true) := (blk_cell F1.out.x 3).trans rfl
      have f3_ := blk_frozen F1.out.x 3
      have c4_ : w1.cell? ⟨w.heap.size + 1 + 1, 4, none⟩ = some (.int .i64 0) := (blk_cell F1.out.x 4).trans rfl
      have f4_ := blk_frozen F1.out.x 4
      have c5_ : w1.cell? ⟨w.heap.size + 1 + 1, 5, none⟩ = some (.int .i64 0) := (blk_cell F1.out.x 5).trans rfl
      have f5_ := blk_frozen F1.out.x 5
      have c6_ : w1.cell? ⟨w.heap.size + 1 + 1, 6, none⟩ = some (.int .i64 0) := (blk_cell F1.out.x 6).trans rfl
      have f6_ := blk_frozen F1.out.x 6
      have c7_ : w1.cell? ⟨w.heap.size + 1 + 1, 7, none⟩ = some (.int .i64 1) := (blk_cell F1.out.x 7).trans rfl
      have f7_ := blk_frozen F1.out.x 7
      have c8_ : w1.cell? ⟨w.heap.size + 1 + 1, 8, none⟩ = some (.int .i64 0) := (blk_cell F1.out.x 8).trans rfl
      have f8_ := blk_frozen F1.out.x 8
      have g0_ : w1.cell? ⟨w.heap.size + 1, 0, none⟩ = some (.int .i64 0) := (blk_cell F1.out.r 0).trans rfl
      have k0_ := blk_frozen F1.out.r 0
      have g1_ : w1.cell? ⟨w.heap.size + 1, 1, none⟩ = some (.int .i64 0) := (blk_cell F1.out.r 1).trans rfl
      have k1_ := blk_frozen F1.out.r 1
      have g2_ : w1.cell? ⟨w.heap.size + 1, 2, none⟩ = some (.int .i64 0) := (blk_cell F1.out.r 2).trans rfl
      have k2_ := blk_frozen F1.out.r 2
      have g3_ : w1.cell? ⟨w.heap.size + 1, 3, none⟩ = some (.bool false) := (blk_cell F1.out.r 3).trans rfl
      have k3_ := blk_frozen F1.out.r 3
      have g4_ : w1.cell? ⟨w.heap.size + 1, 4, none⟩ = some (.int .i64 0) := (blk_cell F1.out.r 4).trans rfl
      have k4_ := blk_frozen F1.out.r 4
      have g5_ : w1.cell? ⟨w.heap.size + 1, 5, none⟩ = some (.int .i64 0) := (blk_cell F1.out.r 5).trans rfl
      have k5_ := blk_frozen F1.out.r 5
      have g6_ : w1.cell? ⟨w.heap.size + 1, 6, none⟩ = some (.int .i64 0) := (blk_cell F1.out.r 6).trans rfl
      have k6_ := blk_frozen F1.out.r 6
      have g7_ : w1.cell? ⟨w.heap.size + 1, 7, none⟩ = some (.int .i64 0) := (blk_cell F1.out.r 7).trans rfl
      have k7_ := blk_frozen F1.out.r 7
      have g8_ : w1.cell? ⟨w.heap.size + 1, 8, none⟩ = some (.int .i64 0) := (blk_cell F1.out.r 8).trans rfl
      have k8_ := blk_frozen F1.out.r 8
      have m1_ : w.heap.size + 1 ≠ w.heap.size + 1 + 1 := by omega
      have m2_ : w.heap.size + 1 + 1 ≠ w.heap.size + 1 := by omega
      have n1_ : w1.heap.size ≠ w.heap.size + 1 := by omega
      have n2_ : w1.heap.size ≠ w.heap.size + 1 + 1 := by omega
      have n3_ : w.heap.size + 1 ≠ w1.heap.size := by omega
      have n4_ : w.heap.size + 1 + 1 ≠ w1.heap.size := by omega
      have lr_ : w.heap.size ≤ w.heap.size + 1 := by omega
      have lx_ : w.heap.size ≤ w.heap.size + 1 + 1 := by omega
      have BR := Aside0.mk F1.out.r
      have BX := Aside0.mk F1.out.x
      clear F1
      generalize w.heap.size + 1 + 1 = nx at *
      generalize w.heap.size + 1 = nr at *
      have BR2 : ((((w1.setCell ⟨nx, 4, none⟩ (.int .i64 d1)).setCell ⟨nx, 5, none⟩ (.int .i64 d2)).alloc (.cells #[.int .i64 d1, .int .i64 d2] 27)).heap[nr]?) = _ := blk_alloc (blk_far (blk_far BR.out m1_ _) m1_ _) _
      have g0_ : (((w1.setCell ⟨nx, 4, none⟩ (.int .i64 d1)).setCell ⟨nx, 5, none⟩ (.int .i64 d2)).alloc (.cells #[.int .i64 d1, .int .i64 d2] 27)).cell? ⟨nr, 0, none⟩ = some (.int .i64 0) := (blk_cell BR2 0).trans rfl
      have k0_ := blk_frozen BR2 0
      have g1_ : (((w1.setCell ⟨nx, 4, none⟩ (.int .i64 d1)).setCell ⟨nx, 5, none⟩ (.int .i64 d2)).alloc (.cells #[.int .i64 d1, .int .i64 d2] 27)).cell? ⟨nr, 1, none⟩ = some (.int .i64 0) := (blk_cell BR2 1).trans rfl
      have k1_ := blk_frozen BR2 1
      have g2_ : (((w1.setCell ⟨nx, 4, none⟩ (.int .i64 d1)).setCell ⟨nx, 5, none⟩ (.int .i64 d2)).alloc (.cells #[.int .i64 d1, .int .i64 d2] 27)).cell? ⟨nr, 2, none⟩ = some (.int .i64 0) := (blk_cell BR2 2).trans rfl
      have k2_ := blk_frozen BR2 2
      have g3_ : (((w1.setCell ⟨nx, 4, none⟩ (.int .i64 d1)).setCell ⟨nx, 5, none⟩ (.int .i64 d2)).alloc (.cells #[.int .i64 d1, .int .i64 d2] 27)).cell? ⟨nr, 3, none⟩ = some (.bool false) := (blk_cell BR2 3).trans rfl
      have k3_ := blk_frozen BR2 3
      have g4_ : (((w1.setCell ⟨nx, 4, none⟩ (.int .i64 d1)).setCell ⟨nx, 5, none⟩ (.int .i64 d2)).alloc (.cells #[.int .i64 d1, .int .i64 d2] 27)).cell? ⟨nr, 4, none⟩ = some (.int .i64 0) := (blk_cell BR2 4).trans rfl
      have k4_ := blk_frozen BR2 4
      have g5_ : (((w1.setCell ⟨nx, 4, none⟩ (.int .i64 d1)).setCell ⟨nx, 5, none⟩ (.int .i64 d2)).alloc (.cells #[.int .i64 d1, .int .i64 d2] 27)).cell? ⟨nr, 5, none⟩ = some (.int .i64 0) := (blk_cell BR2 5).trans rfl
      have k5_ := blk_frozen BR2 5
      have g6_ : (((w1.setCell ⟨nx, 4, none⟩ (.int .i64 d1)).setCell ⟨nx, 5, none⟩ (.int .i64 d2)).alloc (.cells #[.int .i64 d1, .int .i64 d2] 27)).cell? ⟨nr, 6, none⟩ = some (.int .i64 0) := (blk_cell BR2 6).trans rfl
      have k6_ := blk_frozen BR2 6
      have g7_ : (((w1.setCell ⟨nx, 4, none⟩ (.int .i64 d1)).setCell ⟨nx, 5, none⟩ (.int .i64 d2)).alloc (.cells #[.int .i64 d1, .int .i64 d2] 27)).cell? ⟨nr, 7, none⟩ = some (.int .i64 0) := (blk_cell BR2 7).trans rfl
      have k7_ := blk_frozen BR2 7
      have g8_ : (((w1.setCell ⟨nx, 4, none⟩ (.int .i64 d1)).setCell ⟨nx, 5, none⟩ (.int .i64 d2)).alloc (.cells #[.int .i64 d1, .int .i64 d2] 27)).cell? ⟨nr, 8, none⟩ = some (.int .i64 0) := (blk_cell BR2 8).trans rfl
      have k8_ := blk_frozen BR2 8
      replace BR2 := Aside0.mk BR2
      go_wp2
      have H0 := BR2.out
      have H1 := blk_put (cs := #[.int .i64 0, .int .i64 0, .int .i64 0, .bool false, .int .i64 0, .int .i64 0, .int .i64 0, .int .i64 0, .int .i64 0]) (cs' := #[.int .i64 xa, .int .i64 0, .int .i64 0, .bool false, .int .i64 0, .int .i64 0, .int .i64 0, .int .i64 0, .int .i64 0]) H0 0 (.int .i64 xa) rfl
      have H2 := blk_put (cs := #[.int .i64 xa, .int .i64 0, .int .i64 0, .bool false, .int .i64 0, .int .i64 0, .int .i64 0, .int .i64 0, .int .i64 0]) (cs' := #[.int .i64 xa, .int .i64 xb, .int .i64 0, .bool false, .int .i64 0, .int .i64 0, .int .i64 0, .int .i64 0, .int .i64 0]) H1 1 (.int .i64 xb) rfl
      have H3 := blk_put (cs := #[.int .i64 xa, .int .i64 xb, .int .i64 0, .bool false, .int .i64 0, .int .i64 0, .int .i64 0, .int .i64 0, .int .i64 0]) (cs' := #[.int .i64 xa, .int .i64 xb, .int .i64 xm, .bool false, .int .i64 0, .int .i64 0, .int .i64 0, .int .i64 0, .int .i64 0]) H2 2 (.int .i64 xm) rfl
      have H4 := blk_put (cs := #[.int .i64 xa, .int .i64 xb, .int .i64 xm, .bool false, .int .i64 0, .int .i64 0, .int .i64 0, .int .i64 0, .int .i64 0]) (cs' := #[.int .i64 xa, .int .i64 xb, .int .i64 xm, .bool true, .int .i64 0, .int .i64 0, .int .i64 0, .int .i64 0, .int .i64 0]) H3 3 (.bool true) rfl
      have H5 := blk_put (cs := #[.int .i64 xa, .int .i64 xb, .int .i64 xm, .bool true, .int .i64 0, .int .i64 0, .int .i64 0, .int .i64 0, .int .i64 0]) (cs' := #[.int .i64 xa, .int .i64 xb, .int .i64 xm, .bool true, .int .i64 d1, .int .i64 0, .int .i64 0, .int .i64 0, .int .i64 0]) H4 4 (.int .i64 d1) rfl
      have H6 := blk_put (cs := #[.int .i64 xa, .int .i64 xb, .int .i64 xm, .bool true, .int .i64 d1, .int .i64 0, .int .i64 0, .int .i64 0, .int .i64 0]) (cs' := #[.int .i64 xa, .int .i64 xb, .int .i64 xm, .bool true, .int .i64 d1, .int .i64 d2, .int .i64 0, .int .i64 0, .int .i64 0]) H5 5 (.int .i64 d2) rfl
      have H7 := blk_put (cs := #[.int .i64 xa, .int .i64 xb, .int .i64 xm, .bool true, .int .i64 d1, .int .i64 d2, .int .i64 0, .int .i64 0, .int .i64 0]) (cs' := #[.int .i64 xa, .int .i64 xb, .int .i64 xm, .bool true, .int .i64 d1, .int .i64 d2, .int .i64 0, .int .i64 0, .int .i64 0]) H6 6 (.int .i64 0) rfl
      have H8 := blk_put (cs := #[.int .i64 xa, .int .i64 xb, .int .i64 xm, .bool true, .int .i64 d1, .int .i64 d2, .int .i64 0, .int .i64 0, .int .i64 0]) (cs' := #[.int .i64 xa, .int .i64 xb, .int .i64 xm, .bool true, .int .i64 d1, .int .i64 d2, .int .i64 0, .int .i64 1, .int .i64 0]) H7 7 (.int .i64 1) rfl
      have H9 := blk_put (cs := #[.int .i64 xa, .int .i64 xb, .int .i64 xm, .bool true, .int .i64 d1, .int .i64 d2, .int .i64 0, .int .i64 1, .int .i64 0]) (cs' := #[.int .i64 xa, .int .i64 xb, .int .i64 xm, .bool true, .int .i64 d1, .int .i64 d2, .int .i64 0, .int .i64 1, .int .i64 0]) H8 8 (.int .i64 0) rfl
      refine bodyPost_ret (results_ct rfl _ _ nr 51 #[.int .i64 xa, .int .i64 xb, .int .i64 xm, .bool true, .int .i64 d1, .int .i64 d2, .int .i64 0, .int .i64 1, .int .i64 0] (0, 0) _ rfl H9 Try.underlying51 rfl (by kernel_rfl)) rfl ?_
      exact ⟨rfl, (below_set (below_set (below_set (below_set (below_set (below_set (below_set (below_set (below_set (below_alloc (below_set (below_set HB1.out lx_) lx_) _) lr_) lr_) lr_) lr_) lr_) lr_) lr_) lr_) lr_)⟩
  · have e1 : (d3 != 0) = true := bne_iff_ne.mpr h3
    clear h3 hbr
    go_enter Try.func27, Try.ntmps27
    go_wp2_with (fail)
    go_at_call 40
    (with_reducible refine (HS.out _).mono ?_)
    rintro e w1 ⟨rfl, hb⟩
    have F1 := Aside0.mk (F0.step hb)
    have HB1 := Aside0.mk ((by repeat (first | exact HB.out | apply below_alloc) : Below w.heap.size w _).trans (hb.mono (by simp; omega)))
    clear hb F0 x0 x1 x2 x3
    have hlt := blk_lt F1.out.x
    have c0_ : w1.cell? ⟨w.heap.size + 1 + 1, 0, none⟩ = some (.int .i64 xa) := (blk_cell F1.out.x 0).trans rfl
    have f0_ := blk_frozen F1.out.x 0
    have c1_ : w1.cell? ⟨w.heap.size + 1 + 1, 1, none⟩ = some (.int .i64 xb) := (blk_cell F1.out.x 1).trans rfl
    have f1_ := blk_frozen F1.out.x 1
    have c2_ : w1.cell? ⟨w.heap.size + 1 + 1, 2, none⟩ = some (.int .i64 xm) := (blk_cell F1.out.x 2).trans rfl
    have f2_ := blk_frozen F1.out.x 2
    have c3_ : w1.cell? ⟨w.heap.size + 1 + 1, 3, none⟩ = some (.bool xr) := (blk_cell F1.out.x 3).trans rfl
    have f3_ := blk_frozen F1.out.x 3
    have c4_ : w1.cell? ⟨w.heap.size + 1 + 1, 4, none⟩ = some (.int .i64 0) := (blk_cell F1.out.x 4).trans rfl
    have f4_ := blk_frozen F1.out.x 4
    have c5_ : w1.cell? ⟨w.heap.size + 1 + 1, 5, none⟩ = some (.int .i64 0) := (blk_cell F1.out.x 5).trans rfl
    have f5_ := blk_frozen F1.out.x 5
    have c6_ : w1.cell? ⟨w.heap.size + 1 + 1, 6, none⟩ = some (.int .i64 0) := (blk_cell F1.out.x 6).trans rfl
    have f6_ := blk_frozen F1.out.x 6
    have c7_ : w1.cell? ⟨w.heap.size + 1 + 1, 7, none⟩ = some (.int .i64 1) := (blk_cell F1.out.x 7).trans rfl
    have f7_ := blk_frozen F1.out.x 7
    have c8_ : w1.cell? ⟨w.heap.size + 1 + 1, 8, none⟩ = some (.int .i64 0) := (blk_cell F1.out.x 8).trans rfl
    have f8_ := blk_frozen F1.out.x 8
    have g0_ : w1.cell? ⟨w.heap.size + 1, 0, none⟩ = some (.int .i64 0) := (blk_cell F1.out.r 0).trans rfl
    have k0_ := blk_frozen F1.out.r 0
    have g1_ : w1.cell? ⟨w.heap.size + 1, 1, none⟩ = some (.int .i64 0) := (blk_cell F1.out.r 1).trans rfl
    have k1_ := blk_frozen F1.out.r 1
    have g2_ : w1.cell? ⟨w.heap.size + 1, 2, none⟩ = some (.int .i64 0) := (blk_cell F1.out.r 2).trans rfl
    have k2_ := blk_frozen F1.out.r 2
    have g3_ : w1.cell? ⟨w.heap.size + 1, 3, none⟩ = some (.bool false) := (blk_cell F1.out.r 3).trans rfl
    have k3_ := blk_frozen F1.out.r 3
    have g4_ : w1.cell? ⟨w.heap.size + 1, 4, none⟩ = some (.int .i64 0) := (blk_cell F1.out.r 4).trans rfl
    have k4_ := blk_frozen F1.out.r 4
    have g5_ : w1.cell? ⟨w.heap.size + 1, 5, none⟩ = some (.int .i64 0) := (blk_cell F1.out.r 5).trans rfl
    have k5_ := blk_frozen F1.out.r 5
    have g6_ : w1.cell? ⟨w.heap.size + 1, 6, none⟩ = some (.int .i64 0) := (blk_cell F1.out.r 6).trans rfl
    have k6_ := blk_frozen F1.out.r 6
    have g7_ : w1.cell? ⟨w.heap.size + 1, 7, none⟩ = some (.int .i64 0) := (blk_cell F1.out.r 7).trans rfl
    have k7_ := blk_frozen F1.out.r 7
    have g8_ : w1.cell? ⟨w.heap.size + 1, 8, none⟩ = some (.int .i64 0) := (blk_cell F1.out.r 8).trans rfl
    have k8_ := blk_frozen F1.out.r 8
    have m1_ : w.heap.size + 1 ≠ w.heap.size + 1 + 1 := by omega
    have m2_ : w.heap.size + 1 + 1 ≠ w.heap.size + 1 := by omega
    have n1_ : w1.heap.size ≠ w.heap.size + 1 := by omega
    have n2_ : w1.heap.size ≠ w.heap.size + 1 + 1 := by omega
    have n3_ : w.heap.size + 1 ≠ w1.heap.size := by omega
    have n4_ : w.heap.size + 1 + 1 ≠ w1.heap.size := by omega
    have lr_ : w.heap.size ≤ w.heap.size + 1 := by omega
    have lx_ : w.heap.size ≤ w.heap.size + 1 + 1 := by omega
    have BR := Aside0.mk F1.out.r
    have BX := Aside0.mk F1.out.x
    clear F1
    generalize w.heap.size + 1 + 1 = nx at *
    generalize w.heap.size + 1 = nr at *
    have BR2 : ((((w1.setCell ⟨nx, 4, none⟩ (.int .i64 d1)).setCell ⟨nx, 5, none⟩ (.int .i64 d2)).alloc (.cells #[.int .i64 d1, .int .i64 d2] 27)).heap[nr]?) = _ := blk_alloc (blk_far (blk_far BR.out m1_ _) m1_ _) _
    have g0_ : (((w1.setCell ⟨nx, 4, none⟩ (.int .i64 d1)).setCell ⟨nx, 5, none⟩ (.int .i64 d2)).alloc (.cells #[.int .i64 d1, .int .i64 d2] 27)).cell? ⟨nr, 0, none⟩ = some (.int .i64 0) := (blk_cell BR2 0).trans rfl
    have k0_ := blk_frozen BR2 0
    have g1_ : (((w1.setCell ⟨nx, 4, none⟩ (.int .i64 d1)).setCell ⟨nx, 5, none⟩ (.int .i64 d2)).alloc (.cells #[.int .i64 d1, .int .i64 d2] 27)).cell? ⟨nr, 1, none⟩ = some (.int .i64 0) := (blk_cell BR2 1).trans rfl
    have k1_ := blk_frozen BR2 1
    have g2_ : (((w1.setCell ⟨nx, 4, none⟩ (.int .i64 d1)).setCell ⟨nx, 5, none⟩ (.int .i64 d2)).alloc (.cells #[.int .i64 d1, .int .i64 d2] 27)).cell? ⟨nr, 2, none⟩ = some (.int .i64 0) := (blk_cell BR2 2).trans rfl
    have k2_ := blk_frozen BR2 2
    have g3_ : (((w1.setCell ⟨nx, 4, none⟩ (.int .i64 d1)).setCell ⟨nx, 5, none⟩ (.int .i64 d2)).alloc (.cells #[.int .i64 d1, .int .i64 d2] 27)).cell? ⟨nr, 3, none⟩ = some (.bool false) := (blk_cell BR2 3).trans rfl
    have k3_ := blk_frozen BR2 3
    have g4_ : (((w1.setCell ⟨nx, 4, none⟩ (.int .i64 d1)).setCell ⟨nx, 5, none⟩ (.int .i64 d2)).alloc (.cells #[.int .i64 d1, .int .i64 d2] 27)).cell? ⟨nr, 4, none⟩ = some (.int .i64 0) := (blk_cell BR2 4).trans rfl
    have k4_ := blk_frozen BR2 4
    have g5_ : (((w1.setCell ⟨nx, 4, none⟩ (.int .i64 d1)).setCell ⟨nx, 5, none⟩ (.int .i64 d2)).alloc (.cells #[.int .i64 d1, .int .i64 d2] 27)).cell? ⟨nr, 5, none⟩ = some (.int .i64 0) := (blk_cell BR2 5).trans rfl
    have k5_ := blk_frozen BR2 5
    have g6_ : (((w1.setCell ⟨nx, 4, none⟩ (.int .i64 d1)).setCell ⟨nx, 5, none⟩ (.int .i64 d2)).alloc (.cells #[.int .i64 d1, .int .i64 d2] 27)).cell? ⟨nr, 6, none⟩ = some (.int .i64 0) := (blk_cell BR2 6).trans rfl
    have k6_ := blk_frozen BR2 6
    have g7_ : (((w1.setCell ⟨nx, 4, none⟩ (.int .i64 d1)).setCell ⟨nx, 5, none⟩ (.int .i64 d2)).alloc (.cells #[.int .i64 d1, .int .i64 d2] 27)).cell? ⟨nr, 7, none⟩ = some (.int .i64 0) := (blk_cell BR2 7).trans rfl
    have k7_ := blk_frozen BR2 7
    have g8_ : (((w1.setCell ⟨nx, 4, none⟩ (.int .i64 d1)).setCell ⟨nx, 5, none⟩ (.int .i64 d2)).alloc (.cells #[.int .i64 d1, .int .i64 d2] 27)).cell? ⟨nr, 8, none⟩ = some (.int .i64 0) := (blk_cell BR2 8).trans rfl
    have k8_ := blk_frozen BR2 8
    replace BR2 := Aside0.mk BR2
    go_wp2
    have H0 := BR2.out
    have H1 := blk_put (cs := #[.int .i64 0, .int .i64 0, .int .i64 0, .bool false, .int .i64 0, .int .i64 0, .int .i64 0, .int .i64 0, .int .i64 0]) (cs' := #[.int .i64 xa, .int .i64 0, .int .i64 0, .bool false, .int .i64 0, .int .i64 0, .int .i64 0, .int .i64 0, .int .i64 0]) H0 0 (.int .i64 xa) rfl
    have H2 := blk_put (cs := #[.int .i64 xa, .int .i64 0, .int .i64 0, .bool false, .int .i64 0, .int .i64 0, .int .i64 0, .int .i64 0, .int .i64 0]) (cs' := #[.int .i64 xa, .int .i64 xb, .int .i64 0, .bool false, .int .i64 0, .int .i64 0, .int .i64 0, .int .i64 0, .int .i64 0]) H1 1 (.int .i64 xb) rfl
    have H3 := blk_put (cs := #[.int .i64 xa, .int .i64 xb, .int .i64 0, .bool false, .int .i64 0, .int .i64 0, .int .i64 0, .int .i64 0, .int .i64 0]) (cs' := #[.int .i64 xa, .int .i64 xb, .int .i64 xm, .bool false, .int .i64 0, .int .i64 0, .int .i64 0, .int .i64 0, .int .i64 0]) H2 2 (.int .i64 xm) rfl
    have H4 := blk_put (cs := #[.int .i64 xa, .int .i64 xb, .int .i64 xm, .bool false, .int .i64 0, .int .i64 0, .int .i64 0, .int .i64 0, .int .i64 0]) (cs' := #[.int .i64 xa, .int .i64 xb, .int .i64 xm, .bool xr, .int .i64 0, .int .i64 0, .int .i64 0, .int .i64 0, .int .i64 0]) H3 3 (.bool xr) rfl
    have H5 := blk_put (cs := #[.int .i64 xa, .int .i64 xb, .int .i64 xm, .bool xr, .int .i64 0, .int .i64 0, .int .i64 0, .int .i64 0, .int .i64 0]) (cs' := #[.int .i64 xa, .int .i64 xb, .int .i64 xm, .bool xr, .int .i64 d1, .int .i64 0, .int .i64 0, .int .i64 0, .int .i64 0]) H4 4 (.int .i64 d1) rfl
    have H6 := blk_put (cs := #[.int .i64 xa, .int .i64 xb, .int .i64 xm, .bool xr, .int .i64 d1, .int .i64 0, .int .i64 0, .int .i64 0, .int .i64 0]) (cs' := #[.int .i64 xa, .int .i64 xb, .int .i64 xm, .bool xr, .int .i64 d1, .int .i64 d2, .int .i64 0, .int .i64 0, .int .i64 0]) H5 5 (.int .i64 d2) rfl
    have H7 := blk_put (cs := #[.int .i64 xa, .int .i64 xb, .int .i64 xm, .bool xr, .int .i64 d1, .int .i64 d2, .int .i64 0, .int .i64 0, .int .i64 0]) (cs' := #[.int .i64 xa, .int .i64 xb, .int .i64 xm, .bool xr, .int .i64 d1, .int .i64 d2, .int .i64 0, .int .i64 0, .int .i64 0]) H6 6 (.int .i64 0) rfl
    have H8 := blk_put (cs := #[.int .i64 xa, .int .i64 xb, .int .i64 xm, .bool xr, .int .i64 d1, .int .i64 d2, .int .i64 0, .int .i64 0, .int .i64 0]) (cs' := #[.int .i64 xa, .int .i64 xb, .int .i64 xm, .bool xr, .int .i64 d1, .int .i64 d2, .int .i64 0, .int .i64 1, .int .i64 0]) H7 7 (.int .i64 1) rfl
    have H9 := blk_put (cs := #[.int .i64 xa, .int .i64 xb, .int .i64 xm, .bool xr, .int .i64 d1, .int .i64 d2, .int .i64 0, .int .i64 1, .int .i64 0]) (cs' := #[.int .i64 xa, .int .i64 xb, .int .i64 xm, .bool xr, .int .i64 d1, .int .i64 d2, .int .i64 0, .int .i64 1, .int .i64 0]) H8 8 (.int .i64 0) rfl
    refine bodyPost_ret (results_ct rfl _ _ nr 51 #[.int .i64 xa, .int .i64 xb, .int .i64 xm, .bool xr, .int .i64 d1, .int .i64 d2, .int .i64 0, .int .i64 1, .int .i64 0] (0, 0) _ rfl H9 Try.underlying51 rfl (by kernel_rfl)) rfl ?_
    exact ⟨rfl, (below_set (below_set (below_set (below_set (below_set (below_set (below_set (below_set (below_set (below_alloc (below_set (below_set HB1.out lx_) lx_) _) lr_) lr_) lr_) lr_) lr_) lr_) lr_) lr_) lr_)⟩
set_option maxHeartbeats 8000000 in
set_option maxRecDepth 100000 in
theorem reach_go (A0 : Option Addr) (c0 : Nat) (l0 : List S36) (i p q d1 d2 b1 b2 b3 : Int) (w : World) (hr : Kd.C k36 w A0 l0.length l0) (hc : l0.length ≤ c0) (hi : 0 ≤ i) (hj : i + 1 < l0.length) (hlen : l0.length ≤ 1001)
    (hS : ratio_Sub.f p q (rd_T36 l0 i).f0.f0 (rd_T36 l0 i).f0.f1 = some (d1, d2, 0)) (hbr : (rd_T36 l0 i).f2 = true) (hS2 : ratio_Sub.f (rd_T36 l0 (i + 1)).f0.f0 (rd_T36 l0 (i + 1)).f0.f1 (rd_T36 l0 i).f0.f0 (rd_T36 l0 i).f0.f1 = some (b1, b2, b3)) (hb3 : b3 ≠ 0) :
    Calls Try.prog 27 #[.slice A0 l0.length c0, .int .i64 i, .agg #[.int .i64 p, .int .i64 q]] w fun e w' => e = .returned (.tuple #[.agg #[.int .i64 (rd_T36 l0 i).f0.f0, .int .i64 (rd_T36 l0 i).f0.f1, .int .i64 (rd_T36 l0 i).f1, .bool (rd_T36 l0 i).f2, .int .i64 d1, .int .i64 d2, .int .i64 0, .int .i64 1, .int .i64 0], .int .i64 b3]) ∧ Below w.heap.size w w' := by
  have HR := Aside0.mk hr
  obtain ⟨ad, rfl, x0, x1, x2, x3⟩ := at_T36 hr i hi (by omega)
  obtain ⟨ad', ead, y0, y1, y2, y3⟩ := at_T36 hr (i + 1) (by omega) hj
  cases ead
  have HB := Aside0.mk (Below.refl w.heap.size w)
  have hu27 := Try.underlying27
  have hu36 := Try.underlying36
  have hu51 := Try.underlying51
  generalize rd_T36 l0 (i + 1) = y at *
  generalize rd_T36 l0 i = x at *
  obtain ⟨⟨xa, xb⟩, xm, xr⟩ := x
  obtain ⟨⟨ya, yb⟩, ym, yr⟩ := y
  simp only at hS hS2 hbr x0 x1 x2 x3 y0 y1 y2 y3 ⊢
  subst hbr
  have HS := Aside0.mk (fun W => ratio_Sub.calls p q xa xb d1 d2 0 W hS)
  have HS2 := Aside0.mk (fun W => ratio_Sub.calls ya yb xa xb b1 b2 b3 W hS2)
  have F0 := L2.new w (.cells #[.int .i64 p, .int .i64 q] 27) #[.int .i64 xa, .int .i64 xb, .int .i64 xm, .bool true, .int .i64 0, .int .i64 0, .int .i64 0, .int .i64 1, .int .i64 0]
  have hw2 : Below w.heap.size w ((w.alloc (.cells #[.int .i64 p, .int .i64 q] 27)).alloc (.cells #[.int .i64 0, .int .i64 0, .int .i64 0, .bool false, .int .i64 0, .int .i64 0, .int .i64 0, .int .i64 0, .int .i64 0] 51)) := below_alloc (below_alloc HB.out _) _
  replace x0 := (hw2.cell (World.block_lt_of_cell? w _ x0)).trans x0
  replace x1 := (hw2.cell (World.block_lt_of_cell? w _ x1)).trans x1
  replace x2 := (hw2.cell (World.block_lt_of_cell? w _ x2)).trans x2
  replace x3 := (hw2.cell (World.block_lt_of_cell? w _ x3)).trans x3
  clear hS hS2 hr hw2
  have e1 : ((0 : Int) != 0) = false := rfl
  have e2 : (i + 1 == (l0.length : Int)) = false := beq_eq_false_iff_ne.mpr (by omega)
  have e3 : IntKind.i64.wrap (i + 1) = i + 1 := by rw [IntKind.wrap_i64]; omega
  have p1 : 0 ≤ i + 1 := by omega
  go_enter Try.func27, Try.ntmps27
  go_wp2_with (fail)
  go_at_call 40
  (with_reducible refine (HS.out _).mono ?_)
  rintro e w1 ⟨rfl, hb⟩
  have F1 := Aside0.mk (F0.step hb)
  have HB1 := Aside0.mk ((by repeat (first | exact HB.out | apply below_alloc) : Below w.heap.size w _).trans (hb.mono (by simp; omega)))
  clear hb F0 x0 x1 x2 x3
  have hlt := blk_lt F1.out.x
  have c0_ : w1.cell? ⟨w.heap.size + 1 + 1, 0, none⟩ = some (.int .i64 xa) := (blk_cell F1.out.x 0).trans rfl
  have f0_ := blk_frozen F1.out.x 0
  have c1_ : w1.cell? ⟨w.heap.size + 1 + 1, 1, none⟩ = some (.int .i64 xb) := (blk_cell F1.out.x 1).trans rfl
  have f1_ := blk_frozen F1.out.x 1
  have c2_ : w1.cell? ⟨w.heap.size + 1 + 1, 2, none⟩ = some (.int .i64 xm) := (blk_cell F1.out.x 2).trans rfl
  have f2_ := blk_frozen F1.out.x 2
  have c3_ : w1.cell? ⟨w.heap.size + 1 + 1, 3, none⟩ = some (.bool true) := (blk_cell F1.out.x 3).trans rfl
  have f3_ := blk_frozen F1.out.x 3
  have c4_ : w1.cell? ⟨w.heap.size + 1 + 1, 4, none⟩ = some (.int .i64 0) := (blk_cell F1.out.x 4).trans rfl
  have f4_ := blk_frozen F1.out.x 4
  have c5_ : w1.cell? ⟨w.heap.size + 1 + 1, 5, none⟩ = some (.int .i64 0) := (blk_cell F1.out.x 5).trans rfl
  have f5_ := blk_frozen F1.out.x 5
  have c6_ : w1.cell? ⟨w.heap.size + 1 + 1, 6, none⟩ = some (.int .i64 0) := (blk_cell F1.out.x 6).trans rfl
  have f6_ := blk_frozen F1.out.x 6
  have c7_ : w1.cell? ⟨w.heap.size + 1 + 1, 7, none⟩ = some (.int .i64 1) := (blk_cell F1.out.x 7).trans rfl
  have f7_ := blk_frozen F1.out.x 7
  have c8_ : w1.cell? ⟨w.heap.size + 1 + 1, 8, none⟩ = some (.int .i64 0) := (blk_cell F1.out.x 8).trans rfl
  have f8_ := blk_frozen F1.out.x 8
  have g0_ : w1.cell? ⟨w.heap.size + 1, 0, none⟩ = some (.int .i64 0) := (blk_cell F1.out.r 0).trans rfl
  have k0_ := blk_frozen F1.out.r 0
  have g1_ : w1.cell? ⟨w.heap.size + 1, 1, none⟩ = some (.int .i64 0) := (blk_cell F1.out.r 1).trans rfl
  have k1_ := blk_frozen F1.out.r 1
  have g2_ : w1.cell? ⟨w.heap.size + 1, 2, none⟩ = some (.int .i64 0) := (blk_cell F1.out.r 2).trans rfl
  have k2_ := blk_frozen F1.out.r 2
  have g3_ : w1.cell? ⟨w.heap.size + 1, 3, none⟩ = some (.bool false) := (blk_cell F1.out.r 3).trans rfl
  have k3_ := blk_frozen F1.out.r 3
  have g4_ : w1.cell? ⟨w.heap.size + 1, 4, none⟩ = some (.int .i64 0) := (blk_cell F1.out.r 4).trans rfl
  have k4_ := blk_frozen F1.out.r 4
  have g5_ : w1.cell? ⟨w.heap.size + 1, 5, none⟩ = some (.int .i64 0) := (blk_cell F1.out.r 5).trans rfl
  have k5_ := blk_frozen F1.out.r 5
  have g6_ : w1.cell? ⟨w.heap.size + 1, 6, none⟩ = some (.int .i64 0) := (blk_cell F1.out.r 6).trans rfl
  have k6_ := blk_frozen F1.out.r 6
  have g7_ : w1.cell? ⟨w.heap.size + 1, 7, none⟩ = some (.int .i64 0) := (blk_cell F1.out.r 7).trans rfl
  have k7_ := blk_frozen F1.out.r 7
  have g8_ : w1.cell? ⟨w.heap.size + 1, 8, none⟩ = some (.int .i64 0) := (blk_cell F1.out.r 8).trans rfl
  have k8_ := blk_frozen F1.out.r 8
  have m1_ : w.heap.size + 1 ≠ w.heap.size + 1 + 1 := by omega
  have m2_ : w.heap.size + 1 + 1 ≠ w.heap.size + 1 := by omega
  have n1_ : w1.heap.size ≠ w.heap.size + 1 := by omega
  have n2_ : w1.heap.size ≠ w.heap.size + 1 + 1 := by omega
  have n3_ : w.heap.size + 1 ≠ w1.heap.size := by omega
  have n4_ : w.heap.size + 1 + 1 ≠ w1.heap.size := by omega
  have lr_ : w.heap.size ≤ w.heap.size + 1 := by omega
  have lx_ : w.heap.size ≤ w.heap.size + 1 + 1 := by omega
  have BR := Aside0.mk F1.out.r
  have BX := Aside0.mk F1.out.x
  clear F1
  generalize w.heap.size + 1 + 1 = nx at *
  generalize w.heap.size + 1 = nr at *
  have BR2 : ((((w1.setCell ⟨nx, 4, none⟩ (.int .i64 d1)).setCell ⟨nx, 5, none⟩ (.int .i64 d2)).alloc (.cells #[.int .i64 d1, .int .i64 d2] 27)).heap[nr]?) = _ := blk_alloc (blk_far (blk_far BR.out m1_ _) m1_ _) _
  have g0_ : (((w1.setCell ⟨nx, 4, none⟩ (.int .i64 d1)).setCell ⟨nx, 5, none⟩ (.int .i64 d2)).alloc (.cells #[.int .i64 d1, .int .i64 d2] 27)).cell? ⟨nr, 0, none⟩ = some (.int .i64 0) := (blk_cell BR2 0).trans rfl
  have k0_ := blk_frozen BR2 0
  have g1_ : (((w1.setCell ⟨nx, 4, none⟩ (.int .i64 d1)).setCell ⟨nx, 5, none⟩ (.int .i64 d2)).alloc (.cells #[.int .i64 d1, .int .i64 d2] 27)).cell? ⟨nr, 1, none⟩ = some (.int .i64 0) := (blk_cell BR2 1).trans rfl
  have k1_ := blk_frozen BR2 1
  have g2_ : (((w1.setCell ⟨nx, 4, none⟩ (.int .i64 d1)).setCell ⟨nx, 5, none⟩ (.int .i64 d2)).alloc (.cells #[.int .i64 d1, .int .i64 d2] 27)).cell? ⟨nr, 2, none⟩ = some (.int .i64 0) := (blk_cell BR2 2).trans rfl
  have k2_ := blk_frozen BR2 2
  have g3_ : (((w1.setCell ⟨nx, 4, none⟩ (.int .i64 d1)).setCell ⟨nx, 5, none⟩ (.int .i64 d2)).alloc (.cells #[.int .i64 d1, .int .i64 d2] 27)).cell? ⟨nr, 3, none⟩ = some (.bool false) := (blk_cell BR2 3).trans rfl
  have k3_ := blk_frozen BR2 3
  have g4_ : (((w1.setCell ⟨nx, 4, none⟩ (.int .i64 d1)).setCell ⟨nx, 5, none⟩ (.int .i64 d2)).alloc (.cells #[.int .i64 d1, .int .i64 d2] 27)).cell? ⟨nr, 4, none⟩ = some (.int .i64 0) := (blk_cell BR2 4).trans rfl
  have k4_ := blk_frozen BR2 4
  have g5_ : (((w1.setCell ⟨nx, 4, none⟩ (.int .i64 d1)).setCell ⟨nx, 5, none⟩ (.int .i64 d2)).alloc (.cells #[.int .i64 d1, .int .i64 d2] 27)).cell? ⟨nr, 5, none⟩ = some (.int .i64 0) := (blk_cell BR2 5).trans rfl
  have k5_ := blk_frozen BR2 5
  have g6_ : (((w1.setCell ⟨nx, 4, none⟩ (.int .i64 d1)).setCell ⟨nx, 5, none⟩ (.int .i64 d2)).alloc (.cells #[.int .i64 d1, .int .i64 d2] 27)).cell? ⟨nr, 6, none⟩ = some (.int .i64 0) := (blk_cell BR2 6).trans rfl
  have k6_ := blk_frozen BR2 6
  have g7_ : (((w1.setCell ⟨nx, 4, none⟩ (.int .i64 d1)).setCell ⟨nx, 5, none⟩ (.int .i64 d2)).alloc (.cells #[.int .i64 d1, .int .i64 d2] 27)).cell? ⟨nr, 7, none⟩ = some (.int .i64 0) := (blk_cell BR2 7).trans rfl
  have k7_ := blk_frozen BR2 7
  have g8_ : (((w1.setCell ⟨nx, 4, none⟩ (.int .i64 d1)).setCell ⟨nx, 5, none⟩ (.int .i64 d2)).alloc (.cells #[.int .i64 d1, .int .i64 d2] 27)).cell? ⟨nr, 8, none⟩ = some (.int .i64 0) := (blk_cell BR2 8).trans rfl
  have k8_ := blk_frozen BR2 8
  replace BR2 := Aside0.mk BR2
  go_wp2
  have BX2 : (((w1.setCell ⟨nx, 4, none⟩ (.int .i64 d1)).setCell ⟨nx, 5, none⟩ (.int .i64 d2)).alloc (.cells #[.int .i64 d1, .int .i64 d2] 27)).heap[nx]? = some (.cells #[.int .i64 xa, .int .i64 xb, .int .i64 xm, .bool true, .int .i64 d1, .int .i64 d2, .int .i64 0, .int .i64 1, .int .i64 0] 51 (0, 0)) := blk_alloc (blk_put (cs := #[.int .i64 xa, .int .i64 xb, .int .i64 xm, .bool true, .int .i64 d1, .int .i64 0, .int .i64 0, .int .i64 1, .int .i64 0]) (blk_put (cs := #[.int .i64 xa, .int .i64 xb, .int .i64 xm, .bool true, .int .i64 0, .int .i64 0, .int .i64 0, .int .i64 1, .int .i64 0]) (cs' := #[.int .i64 xa, .int .i64 xb, .int .i64 xm, .bool true, .int .i64 d1, .int .i64 0, .int .i64 0, .int .i64 1, .int .i64 0]) BX.out 4 (.int .i64 d1) rfl) 5 (.int .i64 d2) rfl) _
  have HB2 : Below w.heap.size w (((w1.setCell ⟨nx, 4, none⟩ (.int .i64 d1)).setCell ⟨nx, 5, none⟩ (.int .i64 d2)).alloc (.cells #[.int .i64 d1, .int .i64 d2] 27)) := below_alloc (below_set (below_set HB1.out lx_) lx_) _
  have BD2 : (((w1.setCell ⟨nx, 4, none⟩ (.int .i64 d1)).setCell ⟨nx, 5, none⟩ (.int .i64 d2)).alloc (.cells #[.int .i64 d1, .int .i64 d2] 27)).heap[w1.heap.size]? = some (.cells #[.int .i64 d1, .int .i64 d2] 27 (0, 0)) := by
    have h := blk_new ((w1.setCell ⟨nx, 4, none⟩ (.int .i64 d1)).setCell ⟨nx, 5, none⟩ (.int .i64 d2)) (.cells #[.int .i64 d1, .int .i64 d2] 27)
    simpa only [World.size_setCell] using h
  clear c0_ f0_ g0_ k0_ c1_ f1_ g1_ k1_ c2_ f2_ g2_ k2_ c3_ f3_ g3_ k3_ c4_ f4_ g4_ k4_ c5_ f5_ g5_ k5_ c6_ f6_ g6_ k6_ c7_ f7_ g7_ k7_ c8_ f8_ g8_ k8_
  replace BR2 := BR2.out
  generalize (((w1.setCell ⟨nx, 4, none⟩ (.int .i64 d1)).setCell ⟨nx, 5, none⟩ (.int .i64 d2)).alloc (.cells #[.int .i64 d1, .int .i64 d2] 27)) = W2 at *
  have ld_ : w.heap.size ≤ w1.heap.size := HB1.out.size
  clear BX BR HB1 hlt
  generalize w1.heap.size = nd at *
  have c0_ : W2.cell? ⟨nx, 0, none⟩ = some (.int .i64 xa) := (blk_cell BX2 0).trans rfl
  have c1_ : W2.cell? ⟨nx, 1, none⟩ = some (.int .i64 xb) := (blk_cell BX2 1).trans rfl
  replace y0 := (HB2.cell (World.block_lt_of_cell? w _ y0)).trans y0
  replace y1 := (HB2.cell (World.block_lt_of_cell? w _ y1)).trans y1
  replace y2 := (HB2.cell (World.block_lt_of_cell? w _ y2)).trans y2
  have lX := blk_lt BX2
  have nX := World.new_ne W2 _ c0_
  have nX1 := World.new_ne W2 _ c1_
  have nY := World.new_ne W2 _ y0
  have nY1 := World.new_ne W2 _ y1
  have lY0 := World.block_lt_of_cell? W2 _ y0
  have lY1 := World.block_lt_of_cell? W2 _ y1
  have HW4 : Below W2.heap.size W2 W2.drew := below_drew1 (Below.refl _ _)
  have b0_ := (HW4.cell (World.block_lt_of_cell? W2 _ y0)).trans y0
  have t0_ := World.block_lt_of_cell? _ _ b0_
  have b1_ := (HW4.cell (World.block_lt_of_cell? W2 _ y1)).trans y1
  have t1_ := World.block_lt_of_cell? _ _ b1_
  have b2_ := (HW4.cell (World.block_lt_of_cell? W2 _ c0_)).trans c0_
  have t2_ := World.block_lt_of_cell? _ _ b2_
  have b3_ := (HW4.cell (World.block_lt_of_cell? W2 _ c1_)).trans c1_
  have t3_ := World.block_lt_of_cell? _ _ b3_
  clear HW4
  have HW3 : Below W2.heap.size W2 ((W2.alloc (.cells #[.int .i64 0, .int .i64 0] 27)).drew) := below_drew1 (below_alloc (Below.refl _ _) _)
  have a0_ := (HW3.cell (World.block_lt_of_cell? W2 _ y0)).trans y0
  have l0_ := World.block_lt_of_cell? _ _ a0_
  have a1_ := (HW3.cell (World.block_lt_of_cell? W2 _ y1)).trans y1
  have l1_ := World.block_lt_of_cell? _ _ a1_
  have a2_ := (HW3.cell (World.block_lt_of_cell? W2 _ c0_)).trans c0_
  have l2_ := World.block_lt_of_cell? _ _ a2_
  have a3_ := (HW3.cell (World.block_lt_of_cell? W2 _ c1_)).trans c1_
  have l3_ := World.block_lt_of_cell? _ _ a3_
  have BN0 := blk_drew (blk_new W2 (.cells #[.int .i64 0, .int .i64 0] 27))
  clear HW3
  have A2 := Aside0.mk (And.intro BX2 (And.intro BR2 (And.intro BD2 HB2)))
  clear BX2 BR2 BD2 HB2
  go_cut [10, 11] from 45 (fun v10 v11 wc => ∃ nb : Nat, v10 = .int .i64 b3 ∧ v11 = .pointer (some ⟨nb, 0, none⟩) ∧ nb ≠ nx ∧ nb ≠ nr ∧ w.heap.size ≤ nb ∧ Aside0 (wc.heap[nb]? = some (.cells #[.int .i64 b1, .int .i64 b2] 27 (0, 0))) ∧ Aside0 (wc.heap[nx]? = some (.cells #[.int .i64 xa, .int .i64 xb, .int .i64 xm, .bool true, .int .i64 d1, .int .i64 d2, .int .i64 0, .int .i64 1, .int .i64 0] 51 (0, 0))) ∧ Aside0 (wc.heap[nr]? = some (.cells #[.int .i64 0, .int .i64 0, .int .i64 0, .bool false, .int .i64 0, .int .i64 0, .int .i64 0, .int .i64 0, .int .i64 0] 51 (0, 0))) ∧ Aside0 (wc.heap[nd]? = some (.cells #[.int .i64 d1, .int .i64 d2] 27 (0, 0))) ∧ Aside0 (Below w.heap.size w wc))
  case first =>
    go_region_held3 (fun w' => w'.cell? (ad.add ((i + 1).toNat * 4)) = some (.int .i64 ya) ∧ w'.cell? ⟨(ad.add ((i + 1).toNat * 4)).block, (ad.add ((i + 1).toNat * 4)).off + 1, none⟩ = some (.int .i64 yb) ∧ w'.cell? ⟨nx, 0, none⟩ = some (.int .i64 xa) ∧ w'.cell? ⟨nx, 1, none⟩ = some (.int .i64 xb)) (first | go_keep | (go_split_ands <;> assumption) | (go_split_ands; exact ⟨(hb4.cell lY0).trans (by assumption), (hb4.cell lY1).trans (by assumption), (hb4.cell (p := ⟨_, _, none⟩) (by assumption)).trans (by assumption), (hb4.cell (p := ⟨_, _, none⟩) (by assumption)).trans (by assumption)⟩)) ((go_at_call 40; (with_reducible refine (HS2.out _).mono ?_); rintro e w4 ⟨rfl, hb4⟩; have HB4 := Aside0.mk hb4; (first | (have BN := blk_below BN0 hb4; have u0 : w4.cell? ⟨W2.heap.size, 0, none⟩ = some (.int .i64 0) := (blk_cell BN 0).trans rfl; have u1 : w4.cell? ⟨W2.heap.size, 1, none⟩ = some (.int .i64 0) := (blk_cell BN 1).trans rfl; have v0 := blk_frozen BN 0; have v1 := blk_frozen BN 1; replace BN := Aside0.mk BN; have z0 := (hb4.cell l0_).trans a0_; have z1 := (hb4.cell l1_).trans a1_; have z2 := (hb4.cell l2_).trans a2_; have z3 := (hb4.cell l3_).trans a3_) | (have z0 := (hb4.cell t0_).trans b0_; have o0_ := World.new_ne w4 _ z0; have z1 := (hb4.cell t1_).trans b1_; have o1_ := World.new_ne w4 _ z1; have z2 := (hb4.cell t2_).trans b2_; have o2_ := World.new_ne w4 _ z2; have z3 := (hb4.cell t3_).trans b3_; have o3_ := World.new_ne w4 _ z3)); clear hb4))
    all_goals go_wp2
    all_goals (try go_meet)
    all_goals
      obtain ⟨q1, q2, q3, q4⟩ := A2.out
      have qx := blk_lt q1
      have qr := blk_lt q2
      have qs := q4.size
    all_goals first
      | (have r1 := blk_below (blk_drew q1) HB4.out
         have r2 := blk_below (blk_drew q2) HB4.out
         have s1 := blk_lt r1
         have s2 := blk_lt r2
         have s3 := HB4.out.size
         have s4 : W2.drew.heap.size = W2.heap.size := rfl
         exact ⟨_, rfl, rfl, by omega, by omega, by omega, ⟨blk_new w4 _⟩, ⟨blk_alloc r1 _⟩, ⟨blk_alloc r2 _⟩, ⟨blk_alloc (blk_below (blk_drew q3) HB4.out) _⟩, ⟨below_alloc ((below_drew1 q4).trans (HB4.out.mono (by omega))) _⟩⟩)
      | (have n1 : nx ≠ W2.heap.size := by omega
         have n2 : nr ≠ W2.heap.size := by omega
         have qd := blk_lt q3
         have n3 : nd ≠ W2.heap.size := by omega
         have r1 := blk_below (blk_drew (blk_alloc q1 (.cells #[.int .i64 0, .int .i64 0] 27))) HB4.out
         have r2 := blk_below (blk_drew (blk_alloc q2 (.cells #[.int .i64 0, .int .i64 0] 27))) HB4.out
         have r3 := blk_below (blk_drew (blk_alloc q3 (.cells #[.int .i64 0, .int .i64 0] 27))) HB4.out
         have r4 := blk_put (cs := #[.int .i64 b1, .int .i64 0]) (cs' := #[.int .i64 b1, .int .i64 b2]) (blk_put (cs := #[.int .i64 0, .int .i64 0]) (cs' := #[.int .i64 b1, .int .i64 0]) BN.out 0 (.int .i64 b1) rfl) 1 (.int .i64 b2) rfl
         exact ⟨_, rfl, rfl, fun h => n1 h.symm, fun h => n2 h.symm, qs, ⟨r4⟩, ⟨blk_far (blk_far r1 n1 _) n1 _⟩, ⟨blk_far (blk_far r2 n2 _) n2 _⟩, ⟨blk_far (blk_far r3 n3 _) n3 _⟩, ⟨below_set (below_set ((below_drew1 (below_alloc q4 _)).trans (HB4.out.mono (by simp; omega))) qs) qs⟩⟩)
  case rest =>
    obtain ⟨nb, rfl, rfl, nbx, nbr, lb_, WB, WX, WR, WD, HBc⟩ := hcut
    clear y0 y1 y2 lY0 lY1 lX nX nX1 nY nY1 c0_ c1_
    have e4 : (b3 != 0) = true := bne_iff_ne.mpr hb3
    have c0_ : wc.cell? ⟨nx, 0, none⟩ = some (.int .i64 xa) := (blk_cell WX.out 0).trans rfl
    have g0_ : wc.cell? ⟨nr, 0, none⟩ = some (.int .i64 0) := (blk_cell WR.out 0).trans rfl
    have k0_ := blk_frozen WR.out 0
    have c1_ : wc.cell? ⟨nx, 1, none⟩ = some (.int .i64 xb) := (blk_cell WX.out 1).trans rfl
    have g1_ : wc.cell? ⟨nr, 1, none⟩ = some (.int .i64 0) := (blk_cell WR.out 1).trans rfl
    have k1_ := blk_frozen WR.out 1
    have c2_ : wc.cell? ⟨nx, 2, none⟩ = some (.int .i64 xm) := (blk_cell WX.out 2).trans rfl
    have g2_ : wc.cell? ⟨nr, 2, none⟩ = some (.int .i64 0) := (blk_cell WR.out 2).trans rfl
    have k2_ := blk_frozen WR.out 2
    have c3_ : wc.cell? ⟨nx, 3, none⟩ = some (.bool true) := (blk_cell WX.out 3).trans rfl
    have g3_ : wc.cell? ⟨nr, 3, none⟩ = some (.bool false) := (blk_cell WR.out 3).trans rfl
    have k3_ := blk_frozen WR.out 3
    have c4_ : wc.cell? ⟨nx, 4, none⟩ = some (.int .i64 d1) := (blk_cell WX.out 4).trans rfl
    have g4_ : wc.cell? ⟨nr, 4, none⟩ = some (.int .i64 0) := (blk_cell WR.out 4).trans rfl
    have k4_ := blk_frozen WR.out 4
    have c5_ : wc.cell? ⟨nx, 5, none⟩ = some (.int .i64 d2) := (blk_cell WX.out 5).trans rfl
    have g5_ : wc.cell? ⟨nr, 5, none⟩ = some (.int .i64 0) := (blk_cell WR.out 5).trans rfl
    have k5_ := blk_frozen WR.out 5
    have c6_ : wc.cell? ⟨nx, 6, none⟩ = some (.int .i64 0) := (blk_cell WX.out 6).trans rfl
    have g6_ : wc.cell? ⟨nr, 6, none⟩ = some (.int .i64 0) := (blk_cell WR.out 6).trans rfl
    have k6_ := blk_frozen WR.out 6
    have c7_ : wc.cell? ⟨nx, 7, none⟩ = some (.int .i64 1) := (blk_cell WX.out 7).trans rfl
    have g7_ : wc.cell? ⟨nr, 7, none⟩ = some (.int .i64 0) := (blk_cell WR.out 7).trans rfl
    have k7_ := blk_frozen WR.out 7
    have c8_ : wc.cell? ⟨nx, 8, none⟩ = some (.int .i64 0) := (blk_cell WX.out 8).trans rfl
    have g8_ : wc.cell? ⟨nr, 8, none⟩ = some (.int .i64 0) := (blk_cell WR.out 8).trans rfl
    have k8_ := blk_frozen WR.out 8
    go_wp2
    have H0 := WR.out
    have H1 := blk_put (cs := #[.int .i64 0, .int .i64 0, .int .i64 0, .bool false, .int .i64 0, .int .i64 0, .int .i64 0, .int .i64 0, .int .i64 0]) (cs' := #[.int .i64 xa, .int .i64 0, .int .i64 0, .bool false, .int .i64 0, .int .i64 0, .int .i64 0, .int .i64 0, .int .i64 0]) H0 0 (.int .i64 xa) rfl
    have H2 := blk_put (cs := #[.int .i64 xa, .int .i64 0, .int .i64 0, .bool false, .int .i64 0, .int .i64 0, .int .i64 0, .int .i64 0, .int .i64 0]) (cs' := #[.int .i64 xa, .int .i64 xb, .int .i64 0, .bool false, .int .i64 0, .int .i64 0, .int .i64 0, .int .i64 0, .int .i64 0]) H1 1 (.int .i64 xb) rfl
    have H3 := blk_put (cs := #[.int .i64 xa, .int .i64 xb, .int .i64 0, .bool false, .int .i64 0, .int .i64 0, .int .i64 0, .int .i64 0, .int .i64 0]) (cs' := #[.int .i64 xa, .int .i64 xb, .int .i64 xm, .bool false, .int .i64 0, .int .i64 0, .int .i64 0, .int .i64 0, .int .i64 0]) H2 2 (.int .i64 xm) rfl
    have H4 := blk_put (cs := #[.int .i64 xa, .int .i64 xb, .int .i64 xm, .bool false, .int .i64 0, .int .i64 0, .int .i64 0, .int .i64 0, .int .i64 0]) (cs' := #[.int .i64 xa, .int .i64 xb, .int .i64 xm, .bool true, .int .i64 0, .int .i64 0, .int .i64 0, .int .i64 0, .int .i64 0]) H3 3 (.bool true) rfl
    have H5 := blk_put (cs := #[.int .i64 xa, .int .i64 xb, .int .i64 xm, .bool true, .int .i64 0, .int .i64 0, .int .i64 0, .int .i64 0, .int .i64 0]) (cs' := #[.int .i64 xa, .int .i64 xb, .int .i64 xm, .bool true, .int .i64 d1, .int .i64 0, .int .i64 0, .int .i64 0, .int .i64 0]) H4 4 (.int .i64 d1) rfl
    have H6 := blk_put (cs := #[.int .i64 xa, .int .i64 xb, .int .i64 xm, .bool true, .int .i64 d1, .int .i64 0, .int .i64 0, .int .i64 0, .int .i64 0]) (cs' := #[.int .i64 xa, .int .i64 xb, .int .i64 xm, .bool true, .int .i64 d1, .int .i64 d2, .int .i64 0, .int .i64 0, .int .i64 0]) H5 5 (.int .i64 d2) rfl
    have H7 := blk_put (cs := #[.int .i64 xa, .int .i64 xb, .int .i64 xm, .bool true, .int .i64 d1, .int .i64 d2, .int .i64 0, .int .i64 0, .int .i64 0]) (cs' := #[.int .i64 xa, .int .i64 xb, .int .i64 xm, .bool true, .int .i64 d1, .int .i64 d2, .int .i64 0, .int .i64 0, .int .i64 0]) H6 6 (.int .i64 0) rfl
    have H8 := blk_put (cs := #[.int .i64 xa, .int .i64 xb, .int .i64 xm, .bool true, .int .i64 d1, .int .i64 d2, .int .i64 0, .int .i64 0, .int .i64 0]) (cs' := #[.int .i64 xa, .int .i64 xb, .int .i64 xm, .bool true, .int .i64 d1, .int .i64 d2, .int .i64 0, .int .i64 1, .int .i64 0]) H7 7 (.int .i64 1) rfl
    have H9 := blk_put (cs := #[.int .i64 xa, .int .i64 xb, .int .i64 xm, .bool true, .int .i64 d1, .int .i64 d2, .int .i64 0, .int .i64 1, .int .i64 0]) (cs' := #[.int .i64 xa, .int .i64 xb, .int .i64 xm, .bool true, .int .i64 d1, .int .i64 d2, .int .i64 0, .int .i64 1, .int .i64 0]) H8 8 (.int .i64 0) rfl
    refine bodyPost_ret (results_ct rfl _ _ nr 51 #[.int .i64 xa, .int .i64 xb, .int .i64 xm, .bool true, .int .i64 d1, .int .i64 d2, .int .i64 0, .int .i64 1, .int .i64 0] (0, 0) _ rfl H9 Try.underlying51 rfl (by kernel_rfl)) rfl ?_
    exact ⟨rfl, (below_set (below_set (below_set (below_set (below_set (below_set (below_set (below_set (below_set HBc.out lr_) lr_) lr_) lr_) lr_) lr_) lr_) lr_) lr_)⟩
set_option maxHeartbeats 8000000 in
set_option maxRecDepth 100000 in
theorem reach_ok (A0 : Option Addr) (c0 : Nat) (l0 : List S36) (i p q d1 d2 b1 b2 s1 s2 s3 : Int) (w : World) (hr : Kd.C k36 w A0 l0.length l0) (hc : l0.length ≤ c0) (hi : 0 ≤ i) (hj : i + 1 < l0.length) (hlen : l0.length ≤ 1001)
    (hS : ratio_Sub.f p q (rd_T36 l0 i).f0.f0 (rd_T36 l0 i).f0.f1 = some (d1, d2, 0)) (hbr : (rd_T36 l0 i).f2 = true) (hS2 : ratio_Sub.f (rd_T36 l0 (i + 1)).f0.f0 (rd_T36 l0 (i + 1)).f0.f1 (rd_T36 l0 i).f0.f0 (rd_T36 l0 i).f0.f1 = some (b1, b2, 0)) (hD : ratio_Div.f d1 d2 b1 b2 = some (s1, s2, s3)) :
    Calls Try.prog 27 #[.slice A0 l0.length c0, .int .i64 i, .agg #[.int .i64 p, .int .i64 q]] w fun e w' => e = .returned (.tuple #[.agg #[.int .i64 (rd_T36 l0 i).f0.f0, .int .i64 (rd_T36 l0 i).f0.f1, .int .i64 (rd_T36 l0 i).f1, .bool (rd_T36 l0 i).f2, .int .i64 d1, .int .i64 d2, .int .i64 s1, .int .i64 s2, .int .i64 (wrap64 ((rd_T36 l0 (i + 1)).f1 - (rd_T36 l0 i).f1))], .int .i64 s3]) ∧ Below w.heap.size w w' := by
  have HR := Aside0.mk hr
  obtain ⟨ad, rfl, x0, x1, x2, x3⟩ := at_T36 hr i hi (by omega)
  obtain ⟨ad', ead, y0, y1, y2, y3⟩ := at_T36 hr (i + 1) (by omega) hj
  cases ead
  have HB := Aside0.mk (Below.refl w.heap.size w)
  have hu27 := Try.underlying27
  have hu36 := Try.underlying36
  have hu51 := Try.underlying51
  generalize rd_T36 l0 (i + 1) = y at *
  generalize rd_T36 l0 i = x at *
  obtain ⟨⟨xa, xb⟩, xm, xr⟩ := x
  obtain ⟨⟨ya, yb⟩, ym, yr⟩ := y
  simp only at hS hS2 hbr x0 x1 x2 x3 y0 y1 y2 y3 ⊢
  subst hbr
  have HS := Aside0.mk (fun W => ratio_Sub.calls p q xa xb d1 d2 0 W hS)
  have HS2 := Aside0.mk (fun W => ratio_Sub.calls ya yb xa xb b1 b2 0 W hS2)
  have HD := Aside0.mk (fun W => ratio_Div.calls d1 d2 b1 b2 s1 s2 s3 W hD)
  have YW := Aside0.mk y2
  clear hD
  have F0 := L2.new w (.cells #[.int .i64 p, .int .i64 q] 27) #[.int .i64 xa, .int .i64 xb, .int .i64 xm, .bool true, .int .i64 0, .int .i64 0, .int .i64 0, .int .i64 1, .int .i64 0]
  have hw2 : Below w.heap.size w ((w.alloc (.cells #[.int .i64 p, .int .i64 q] 27)).alloc (.cells #[.int .i64 0, .int .i64 0, .int .i64 0, .bool false, .int .i64 0, .int .i64 0, .int .i64 0, .int .i64 0, .int .i64 0] 51)) := below_alloc (below_alloc HB.out _) _
  replace x0 := (hw2.cell (World.block_lt_of_cell? w _ x0)).trans x0
  replace x1 := (hw2.cell (World.block_lt_of_cell? w _ x1)).trans x1
  replace x2 := (hw2.cell (World.block_lt_of_cell? w _ x2)).trans x2
  replace x3 := (hw2.cell (World.block_lt_of_cell? w _ x3)).trans x3
  clear hS hS2 hr hw2
  have e1 : ((0 : Int) != 0) = false := rfl
  have e2 : (i + 1 == (l0.length : Int)) = false := beq_eq_false_iff_ne.mpr (by omega)
  have e3 : IntKind.i64.wrap (i + 1) = i + 1 := by rw [IntKind.wrap_i64]; omega
  have p1 : 0 ≤ i + 1 := by omega
  go_enter Try.func27, Try.ntmps27
  go_wp2_with (fail)
  go_at_call 40
  (with_reducible refine (HS.out _).mono ?_)
  rintro e w1 ⟨rfl, hb⟩
  have F1 := Aside0.mk (F0.step hb)
  have HB1 := Aside0.mk ((by repeat (first | exact HB.out | apply below_alloc) : Below w.heap.size w _).trans (hb.mono (by simp; omega)))
  clear hb F0 x0 x1 x2 x3
  have hlt := blk_lt F1.out.x
  have c0_ : w1.cell? ⟨w.heap.size + 1 + 1, 0, none⟩ = some (.int .i64 xa) := (blk_cell F1.out.x 0).trans rfl
  have f0_ := blk_frozen F1.out.x 0
  have c1_ : w1.cell? ⟨w.heap.size + 1 + 1, 1, none⟩ = some (.int .i64 xb) := (blk_cell F1.out.x 1).trans rfl
  have f1_ := blk_frozen F1.out.x 1
  have c2_ : w1.cell? ⟨w.heap.size + 1 + 1, 2, none⟩ = some (.int .i64 xm) := (blk_cell F1.out.x 2).trans rfl
  have f2_ := blk_frozen F1.out.x 2
  have c3_ : w1.cell? ⟨w.heap.size + 1 + 1, 3, none⟩ = some (.bool true) := (blk_cell F1.out.x 3).trans rfl
  have f3_ := blk_frozen F1.out.x 3
  have c4_ : w1.cell? ⟨w.heap.size + 1 + 1, 4, none⟩ = some (.int .i64 0) := (blk_cell F1.out.x 4).trans rfl
  have f4_ := blk_frozen F1.out.x 4
  have c5_ : w1.cell? ⟨w.heap.size + 1 + 1, 5, none⟩ = some (.int .i64 0) := (blk_cell F1.out.x 5).trans rfl
  have f5_ := blk_frozen F1.out.x 5
  have c6_ : w1.cell? ⟨w.heap.size + 1 + 1, 6, none⟩ = some (.int .i64 0) := (blk_cell F1.out.x 6).trans rfl
  have f6_ := blk_frozen F1.out.x 6
  have c7_ : w1.cell? ⟨w.heap.size + 1 + 1, 7, none⟩ = some (.int .i64 1) := (blk_cell F1.out.x 7).trans rfl
  have f7_ := blk_frozen F1.out.x 7
  have c8_ : w1.cell? ⟨w.heap.size + 1 + 1, 8, none⟩ = some (.int .i64 0) := (blk_cell F1.out.x 8).trans rfl
  have f8_ := blk_frozen F1.out.x 8
  have g0_ : w1.cell? ⟨w.heap.size + 1, 0, none⟩ = some (.int .i64 0) := (blk_cell F1.out.r 0).trans rfl
  have k0_ := blk_frozen F1.out.r 0
  have g1_ : w1.cell? ⟨w.heap.size + 1, 1, none⟩ = some (.int .i64 0) := (blk_cell F1.out.r 1).trans rfl
  have k1_ := blk_frozen F1.out.r 1
  have g2_ : w1.cell? ⟨w.heap.size + 1, 2, none⟩ = some (.int .i64 0) := (blk_cell F1.out.r 2).trans rfl
  have k2_ := blk_frozen F1.out.r 2
  have g3_ : w1.cell? ⟨w.heap.size + 1, 3, none⟩ = some (.bool false) := (blk_cell F1.out.r 3).trans rfl
  have k3_ := blk_frozen F1.out.r 3
  have g4_ : w1.cell? ⟨w.heap.size + 1, 4, none⟩ = some (.int .i64 0) := (blk_cell F1.out.r 4).trans rfl
  have k4_ := blk_frozen F1.out.r 4
  have g5_ : w1.cell? ⟨w.heap.size + 1, 5, none⟩ = some (.int .i64 0) := (blk_cell F1.out.r 5).trans rfl
  have k5_ := blk_frozen F1.out.r 5
  have g6_ : w1.cell? ⟨w.heap.size + 1, 6, none⟩ = some (.int .i64 0) := (blk_cell F1.out.r 6).trans rfl
  have k6_ := blk_frozen F1.out.r 6
  have g7_ : w1.cell? ⟨w.heap.size + 1, 7, none⟩ = some (.int .i64 0) := (blk_cell F1.out.r 7).trans rfl
  have k7_ := blk_frozen F1.out.r 7
  have g8_ : w1.cell? ⟨w.heap.size + 1, 8, none⟩ = some (.int .i64 0) := (blk_cell F1.out.r 8).trans rfl
  have k8_ := blk_frozen F1.out.r 8
  have m1_ : w.heap.size + 1 ≠ w.heap.size + 1 + 1 := by omega
  have m2_ : w.heap.size + 1 + 1 ≠ w.heap.size + 1 := by omega
  have n1_ : w1.heap.size ≠ w.heap.size + 1 := by omega
  have n2_ : w1.heap.size ≠ w.heap.size + 1 + 1 := by omega
  have n3_ : w.heap.size + 1 ≠ w1.heap.size := by omega
  have n4_ : w.heap.size + 1 + 1 ≠ w1.heap.size := by omega
  have lr_ : w.heap.size ≤ w.heap.size + 1 := by omega
  have lx_ : w.heap.size ≤ w.heap.size + 1 + 1 := by omega
  have BR := Aside0.mk F1.out.r
  have BX := Aside0.mk F1.out.x
  clear F1
  generalize w.heap.size + 1 + 1 = nx at *
  generalize w.heap.size + 1 = nr at *
  have BR2 : ((((w1.setCell ⟨nx, 4, none⟩ (.int .i64 d1)).setCell ⟨nx, 5, none⟩ (.int .i64 d2)).alloc (.cells #[.int .i64 d1, .int .i64 d2] 27)).heap[nr]?) = _ := blk_alloc (blk_far (blk_far BR.out m1_ _) m1_ _) _
  have g0_ : (((w1.setCell ⟨nx, 4, none⟩ (.int .i64 d1)).setCell ⟨nx, 5, none⟩ (.int .i64 d2)).alloc (.cells #[.int .i64 d1, .int .i64 d2] 27)).cell? ⟨nr, 0, none⟩ = some (.int .i64 0) := (blk_cell BR2 0).trans rfl
  have k0_ := blk_frozen BR2 0
  have g1_ : (((w1.setCell ⟨nx, 4, none⟩ (.int .i64 d1)).setCell ⟨nx, 5, none⟩ (.int .i64 d2)).alloc (.cells #[.int .i64 d1, .int .i64 d2] 27)).cell? ⟨nr, 1, none⟩ = some (.int .i64 0) := (blk_cell BR2 1).trans rfl
  have k1_ := blk_frozen BR2 1
  have g2_ : (((w1.setCell ⟨nx, 4, none⟩ (.int .i64 d1)).setCell ⟨nx, 5, none⟩ (.int .i64 d2)).alloc (.cells #[.int .i64 d1, .int .i64 d2] 27)).cell? ⟨nr, 2, none⟩ = some (.int .i64 0) := (blk_cell BR2 2).trans rfl
  have k2_ := blk_frozen BR2 2
  have g3_ : (((w1.setCell ⟨nx, 4, none⟩ (.int .i64 d1)).setCell ⟨nx, 5, none⟩ (.int .i64 d2)).alloc (.cells #[.int .i64 d1, .int .i64 d2] 27)).cell? ⟨nr, 3, none⟩ = some (.bool false) := (blk_cell BR2 3).trans rfl
  have k3_ := blk_frozen BR2 3
  have g4_ : (((w1.setCell ⟨nx, 4, none⟩ (.int .i64 d1)).setCell ⟨nx, 5, none⟩ (.int .i64 d2)).alloc (.cells #[.int .i64 d1, .int .i64 d2] 27)).cell? ⟨nr, 4, none⟩ = some (.int .i64 0) := (blk_cell BR2 4).trans rfl
  have k4_ := blk_frozen BR2 4
  have g5_ : (((w1.setCell ⟨nx, 4, none⟩ (.int .i64 d1)).setCell ⟨nx, 5, none⟩ (.int .i64 d2)).alloc (.cells #[.int .i64 d1, .int .i64 d2] 27)).cell? ⟨nr, 5, none⟩ = some (.int .i64 0) := (blk_cell BR2 5).trans rfl
  have k5_ := blk_frozen BR2 5
  have g6_ : (((w1.setCell ⟨nx, 4, none⟩ (.int .i64 d1)).setCell ⟨nx, 5, none⟩ (.int .i64 d2)).alloc (.cells #[.int .i64 d1, .int .i64 d2] 27)).cell? ⟨nr, 6, none⟩ = some (.int .i64 0) := (blk_cell BR2 6).trans rfl
  have k6_ := blk_frozen BR2 6
  have g7_ : (((w1.setCell ⟨nx, 4, none⟩ (.int .i64 d1)).setCell ⟨nx, 5, none⟩ (.int .i64 d2)).alloc (.cells #[.int .i64 d1, .int .i64 d2] 27)).cell? ⟨nr, 7, none⟩ = some (.int .i64 0) := (blk_cell BR2 7).trans rfl
  have k7_ := blk_frozen BR2 7
  have g8_ : (((w1.setCell ⟨nx, 4, none⟩ (.int .i64 d1)).setCell ⟨nx, 5, none⟩ (.int .i64 d2)).alloc (.cells #[.int .i64 d1, .int .i64 d2] 27)).cell? ⟨nr, 8, none⟩ = some (.int .i64 0) := (blk_cell BR2 8).trans rfl
  have k8_ := blk_frozen BR2 8
  replace BR2 := Aside0.mk BR2
  go_wp2
  have BX2 : (((w1.setCell ⟨nx, 4, none⟩ (.int .i64 d1)).setCell ⟨nx, 5, none⟩ (.int .i64 d2)).alloc (.cells #[.int .i64 d1, .int .i64 d2] 27)).heap[nx]? = some (.cells #[.int .i64 xa, .int .i64 xb, .int .i64 xm, .bool true, .int .i64 d1, .int .i64 d2, .int .i64 0, .int .i64 1, .int .i64 0] 51 (0, 0)) := blk_alloc (blk_put (cs := #[.int .i64 xa, .int .i64 xb, .int .i64 xm, .bool true, .int .i64 d1, .int .i64 0, .int .i64 0, .int .i64 1, .int .i64 0]) (blk_put (cs := #[.int .i64 xa, .int .i64 xb, .int .i64 xm, .bool true, .int .i64 0, .int .i64 0, .int .i64 0, .int .i64 1, .int .i64 0]) (cs' := #[.int .i64 xa, .int .i64 xb, .int .i64 xm, .bool true, .int .i64 d1, .int .i64 0, .int .i64 0, .int .i64 1, .int .i64 0]) BX.out 4 (.int .i64 d1) rfl) 5 (.int .i64 d2) rfl) _
  have HB2 : Below w.heap.size w (((w1.setCell ⟨nx, 4, none⟩ (.int .i64 d1)).setCell ⟨nx, 5, none⟩ (.int .i64 d2)).alloc (.cells #[.int .i64 d1, .int .i64 d2] 27)) := below_alloc (below_set (below_set HB1.out lx_) lx_) _
  have BD2 : (((w1.setCell ⟨nx, 4, none⟩ (.int .i64 d1)).setCell ⟨nx, 5, none⟩ (.int .i64 d2)).alloc (.cells #[.int .i64 d1, .int .i64 d2] 27)).heap[w1.heap.size]? = some (.cells #[.int .i64 d1, .int .i64 d2] 27 (0, 0)) := by
    have h := blk_new ((w1.setCell ⟨nx, 4, none⟩ (.int .i64 d1)).setCell ⟨nx, 5, none⟩ (.int .i64 d2)) (.cells #[.int .i64 d1, .int .i64 d2] 27)
    simpa only [World.size_setCell] using h
  clear c0_ f0_ g0_ k0_ c1_ f1_ g1_ k1_ c2_ f2_ g2_ k2_ c3_ f3_ g3_ k3_ c4_ f4_ g4_ k4_ c5_ f5_ g5_ k5_ c6_ f6_ g6_ k6_ c7_ f7_ g7_ k7_ c8_ f8_ g8_ k8_
  replace BR2 := BR2.out
  generalize (((w1.setCell ⟨nx, 4, none⟩ (.int .i64 d1)).setCell ⟨nx, 5, none⟩ (.int .i64 d2)).alloc (.cells #[.int .i64 d1, .int .i64 d2] 27)) = W2 at *
  have ld_ : w.heap.size ≤ w1.heap.size := HB1.out.size
  clear BX BR HB1 hlt
  generalize w1.heap.size = nd at *
  have c0_ : W2.cell? ⟨nx, 0, none⟩ = some (.int .i64 xa) := (blk_cell BX2 0).trans rfl
  have c1_ : W2.cell? ⟨nx, 1, none⟩ = some (.int .i64 xb) := (blk_cell BX2 1).trans rfl
  replace y0 := (HB2.cell (World.block_lt_of_cell? w _ y0)).trans y0
  replace y1 := (HB2.cell (World.block_lt_of_cell? w _ y1)).trans y1
  replace y2 := (HB2.cell (World.block_lt_of_cell? w _ y2)).trans y2
  have lX := blk_lt BX2
  have nX := World.new_ne W2 _ c0_
  have nX1 := World.new_ne W2 _ c1_
  have nY := World.new_ne W2 _ y0
  have nY1 := World.new_ne W2 _ y1
  have lY0 := World.block_lt_of_cell? W2 _ y0
  have lY1 := World.block_lt_of_cell? W2 _ y1
  have HW4 : Below W2.heap.size W2 W2.drew := below_drew1 (Below.refl _ _)
  have b0_ := (HW4.cell (World.block_lt_of_cell? W2 _ y0)).trans y0
  have t0_ := World.block_lt_of_cell? _ _ b0_
  have b1_ := (HW4.cell (World.block_lt_of_cell? W2 _ y1)).trans y1
  have t1_ := World.block_lt_of_cell? _ _ b1_
  have b2_ := (HW4.cell (World.block_lt_of_cell? W2 _ c0_)).trans c0_
  have t2_ := World.block_lt_of_cell? _ _ b2_
  have b3_ := (HW4.cell (World.block_lt_of_cell? W2 _ c1_)).trans c1_
  have t3_ := World.block_lt_of_cell? _ _ b3_
  clear HW4
  have HW3 : Below W2.heap.size W2 ((W2.alloc (.cells #[.int .i64 0, .int .i64 0] 27)).drew) := below_drew1 (below_alloc (Below.refl _ _) _)
  have a0_ := (HW3.cell (World.block_lt_of_cell? W2 _ y0)).trans y0
  have l0_ := World.block_lt_of_cell? _ _ a0_
  have a1_ := (HW3.cell (World.block_lt_of_cell? W2 _ y1)).trans y1
  have l1_ := World.block_lt_of_cell? _ _ a1_
  have a2_ := (HW3.cell (World.block_lt_of_cell? W2 _ c0_)).trans c0_
  have l2_ := World.block_lt_of_cell? _ _ a2_
  have a3_ := (HW3.cell (World.block_lt_of_cell? W2 _ c1_)).trans c1_
  have l3_ := World.block_lt_of_cell? _ _ a3_
  have BN0 := blk_drew (blk_new W2 (.cells #[.int .i64 0, .int .i64 0] 27))
  clear HW3
  have A2 := Aside0.mk (And.intro BX2 (And.intro BR2 (And.intro BD2 HB2)))
  clear BX2 BR2 BD2 HB2
  go_cut [10, 11] from 45 (fun v10 v11 wc => ∃ nb : Nat, v10 = .int .i64 0 ∧ v11 = .pointer (some ⟨nb, 0, none⟩) ∧ nb ≠ nx ∧ nb ≠ nr ∧ w.heap.size ≤ nb ∧ Aside0 (wc.heap[nb]? = some (.cells #[.int .i64 b1, .int .i64 b2] 27 (0, 0))) ∧ Aside0 (wc.heap[nx]? = some (.cells #[.int .i64 xa, .int .i64 xb, .int .i64 xm, .bool true, .int .i64 d1, .int .i64 d2, .int .i64 0, .int .i64 1, .int .i64 0] 51 (0, 0))) ∧ Aside0 (wc.heap[nr]? = some (.cells #[.int .i64 0, .int .i64 0, .int .i64 0, .bool false, .int .i64 0, .int .i64 0, .int .i64 0, .int .i64 0, .int .i64 0] 51 (0, 0))) ∧ Aside0 (wc.heap[nd]? = some (.cells #[.int .i64 d1, .int .i64 d2] 27 (0, 0))) ∧ Aside0 (Below w.heap.size w wc))
  case first =>
    go_region_held3 (fun w' => w'.cell? (ad.add ((i + 1).toNat * 4)) = some (.int .i64 ya) ∧ w'.cell? ⟨(ad.add ((i + 1).toNat * 4)).block, (ad.add ((i + 1).toNat * 4)).off + 1, none⟩ = some (.int .i64 yb) ∧ w'.cell? ⟨nx, 0, none⟩ = some (.int .i64 xa) ∧ w'.cell? ⟨nx, 1, none⟩ = some (.int .i64 xb)) (first | go_keep | (go_split_ands <;> assumption) | (go_split_ands; exact ⟨(hb4.cell lY0).trans (by assumption), (hb4.cell lY1).trans (by assumption), (hb4.cell (p := ⟨_, _, none⟩) (by assumption)).trans (by assumption), (hb4.cell (p := ⟨_, _, none⟩) (by assumption)).trans (by assumption)⟩)) ((go_at_call 40; (with_reducible refine (HS2.out _).mono ?_); rintro e w4 ⟨rfl, hb4⟩; have HB4 := Aside0.mk hb4; (first | (have BN := blk_below BN0 hb4; have u0 : w4.cell? ⟨W2.heap.size, 0, none⟩ = some (.int .i64 0) := (blk_cell BN 0).trans rfl; have u1 : w4.cell? ⟨W2.heap.size, 1, none⟩ = some (.int .i64 0) := (blk_cell BN 1).trans rfl; have v0 := blk_frozen BN 0; have v1 := blk_frozen BN 1; replace BN := Aside0.mk BN; have z0 := (hb4.cell l0_).trans a0_; have z1 := (hb4.cell l1_).trans a1_; have z2 := (hb4.cell l2_).trans a2_; have z3 := (hb4.cell l3_).trans a3_) | (have z0 := (hb4.cell t0_).trans b0_; have o0_ := World.new_ne w4 _ z0; have z1 := (hb4.cell t1_).trans b1_; have o1_ := World.new_ne w4 _ z1; have z2 := (hb4.cell t2_).trans b2_; have o2_ := World.new_ne w4 _ z2; have z3 := (hb4.cell t3_).trans b3_; have o3_ := World.new_ne w4 _ z3)); clear hb4))
    all_goals go_wp2
    all_goals (try go_meet)
    all_goals
      obtain ⟨q1, q2, q3, q4⟩ := A2.out
      have qx := blk_lt q1
      have qr := blk_lt q2
      have qs := q4.size
    all_goals first
      | (have r1 := blk_below (blk_drew q1) HB4.out
         have r2 := blk_below (blk_drew q2) HB4.out
         have s1 := blk_lt r1
         have s2 := blk_lt r2
         have s3 := HB4.out.size
         have s4 : W2.drew.heap.size = W2.heap.size := rfl
         exact ⟨_, rfl, rfl, by omega, by omega, by omega, ⟨blk_new w4 _⟩, ⟨blk_alloc r1 _⟩, ⟨blk_alloc r2 _⟩, ⟨blk_alloc (blk_below (blk_drew q3) HB4.out) _⟩, ⟨below_alloc ((below_drew1 q4).trans (HB4.out.mono (by omega))) _⟩⟩)
      | (have n1 : nx ≠ W2.heap.size := by omega
         have n2 : nr ≠ W2.heap.size := by omega
         have qd := blk_lt q3
         have n3 : nd ≠ W2.heap.size := by omega
         have r1 := blk_below (blk_drew (blk_alloc q1 (.cells #[.int .i64 0, .int .i64 0] 27))) HB4.out
         have r2 := blk_below (blk_drew (blk_alloc q2 (.cells #[.int .i64 0, .int .i64 0] 27))) HB4.out
         have r3 := blk_below (blk_drew (blk_alloc q3 (.cells #[.int .i64 0, .int .i64 0] 27))) HB4.out
         have r4 := blk_put (cs := #[.int .i64 b1, .int .i64 0]) (cs' := #[.int .i64 b1, .int .i64 b2]) (blk_put (cs := #[.int .i64 0, .int .i64 0]) (cs' := #[.int .i64 b1, .int .i64 0]) BN.out 0 (.int .i64 b1) rfl) 1 (.int .i64 b2) rfl
         exact ⟨_, rfl, rfl, fun h => n1 h.symm, fun h => n2 h.symm, qs, ⟨r4⟩, ⟨blk_far (blk_far r1 n1 _) n1 _⟩, ⟨blk_far (blk_far r2 n2 _) n2 _⟩, ⟨blk_far (blk_far r3 n3 _) n3 _⟩, ⟨below_set (below_set ((below_drew1 (below_alloc q4 _)).trans (HB4.out.mono (by simp; omega))) qs) qs⟩⟩)
  case rest =>
    obtain ⟨nb, rfl, rfl, nbx, nbr, lb_, WB, WX, WR, WD, HBc⟩ := hcut
    clear y0 y1 y2 lY0 lY1 lX nX nX1 nY nY1 c0_ c1_
    have e4 : ((0 : Int) != 0) = false := rfl
    have y2 := (HBc.out.cell (World.block_lt_of_cell? w _ YW.out)).trans YW.out
    have p2 : i + 1 < (l0.length : Int) := hj
    have c0_ : wc.cell? ⟨nx, 0, none⟩ = some (.int .i64 xa) := (blk_cell WX.out 0).trans rfl
    have f0_ := blk_frozen WX.out 0
    have c1_ : wc.cell? ⟨nx, 1, none⟩ = some (.int .i64 xb) := (blk_cell WX.out 1).trans rfl
    have f1_ := blk_frozen WX.out 1
    have c2_ : wc.cell? ⟨nx, 2, none⟩ = some (.int .i64 xm) := (blk_cell WX.out 2).trans rfl
    have f2_ := blk_frozen WX.out 2
    have c3_ : wc.cell? ⟨nx, 3, none⟩ = some (.bool true) := (blk_cell WX.out 3).trans rfl
    have f3_ := blk_frozen WX.out 3
    have c4_ : wc.cell? ⟨nx, 4, none⟩ = some (.int .i64 d1) := (blk_cell WX.out 4).trans rfl
    have f4_ := blk_frozen WX.out 4
    have c5_ : wc.cell? ⟨nx, 5, none⟩ = some (.int .i64 d2) := (blk_cell WX.out 5).trans rfl
    have f5_ := blk_frozen WX.out 5
    have c6_ : wc.cell? ⟨nx, 6, none⟩ = some (.int .i64 0) := (blk_cell WX.out 6).trans rfl
    have f6_ := blk_frozen WX.out 6
    have c7_ : wc.cell? ⟨nx, 7, none⟩ = some (.int .i64 1) := (blk_cell WX.out 7).trans rfl
    have f7_ := blk_frozen WX.out 7
    have c8_ : wc.cell? ⟨nx, 8, none⟩ = some (.int .i64 0) := (blk_cell WX.out 8).trans rfl
    have f8_ := blk_frozen WX.out 8
    have d0_ : wc.cell? ⟨nd, 0, none⟩ = some (.int .i64 d1) := (blk_cell WD.out 0).trans rfl
    have d1_ : wc.cell? ⟨nd, 1, none⟩ = some (.int .i64 d2) := (blk_cell WD.out 1).trans rfl
    have h0_ : wc.cell? ⟨nb, 0, none⟩ = some (.int .i64 b1) := (blk_cell WB.out 0).trans rfl
    have h1_ : wc.cell? ⟨nb, 1, none⟩ = some (.int .i64 b2) := (blk_cell WB.out 1).trans rfl
    go_wp2
    go_region
    go_wp2_with (fail)
    go_at_call 41
    (with_reducible refine (HD.out _).mono ?_)
    rintro e w5 ⟨rfl, hb⟩
    have X5 := blk_below (blk_drew (blk_put (cs := #[.int .i64 xa, .int .i64 xb, .int .i64 xm, .bool true, .int .i64 d1, .int .i64 d2, .int .i64 0, .int .i64 1, .int .i64 0]) (cs' := #[.int .i64 xa, .int .i64 xb, .int .i64 xm, .bool true, .int .i64 d1, .int .i64 d2, .int .i64 0, .int .i64 1, .int .i64 (wrap64 (ym - xm))]) WX.out 8 (.int .i64 (wrap64 (ym - xm))) rfl)) hb
    have R5 := blk_below (blk_drew (blk_far (p := ⟨nx, 8, none⟩) WR.out m1_ (.int .i64 (wrap64 (ym - xm))))) hb
    have HB5 : Below w.heap.size w w5 := (below_drew1 (below_set HBc.out lx_)).trans (hb.mono (below_size (below_drew1 (below_set HBc.out lx_))))
    clear hb d0_ d1_ h0_ h1_ y2 c0_ f0_ c1_ f1_ c2_ f2_ c3_ f3_ c4_ f4_ c5_ f5_ c6_ f6_ c7_ f7_ c8_ f8_
    have c0_ : w5.cell? ⟨nx, 0, none⟩ = some (.int .i64 xa) := (blk_cell X5 0).trans rfl
    have f0_ := blk_frozen X5 0
    have g0_ : w5.cell? ⟨nr, 0, none⟩ = some (.int .i64 0) := (blk_cell R5 0).trans rfl
    have k0_ := blk_frozen R5 0
    have c1_ : w5.cell? ⟨nx, 1, none⟩ = some (.int .i64 xb) := (blk_cell X5 1).trans rfl
    have f1_ := blk_frozen X5 1
    have g1_ : w5.cell? ⟨nr, 1, none⟩ = some (.int .i64 0) := (blk_cell R5 1).trans rfl
    have k1_ := blk_frozen R5 1
    have c2_ : w5.cell? ⟨nx, 2, none⟩ = some (.int .i64 xm) := (blk_cell X5 2).trans rfl
    have f2_ := blk_frozen X5 2
    have g2_ : w5.cell? ⟨nr, 2, none⟩ = some (.int .i64 0) := (blk_cell R5 2).trans rfl
    have k2_ := blk_frozen R5 2
    have c3_ : w5.cell? ⟨nx, 3, none⟩ = some (.bool true) := (blk_cell X5 3).trans rfl
    have f3_ := blk_frozen X5 3
    have g3_ : w5.cell? ⟨nr, 3, none⟩ = some (.bool false) := (blk_cell R5 3).trans rfl
    have k3_ := blk_frozen R5 3
    have c4_ : w5.cell? ⟨nx, 4, none⟩ = some (.int .i64 d1) := (blk_cell X5 4).trans rfl
    have f4_ := blk_frozen X5 4
    have g4_ : w5.cell? ⟨nr, 4, none⟩ = some (.int .i64 0) := (blk_cell R5 4).trans rfl
    have k4_ := blk_frozen R5 4
    have c5_ : w5.cell? ⟨nx, 5, none⟩ = some (.int .i64 d2) := (blk_cell X5 5).trans rfl
    have f5_ := blk_frozen X5 5
    have g5_ : w5.cell? ⟨nr, 5, none⟩ = some (.int .i64 0) := (blk_cell R5 5).trans rfl
    have k5_ := blk_frozen R5 5
    have c6_ : w5.cell? ⟨nx, 6, none⟩ = some (.int .i64 0) := (blk_cell X5 6).trans rfl
    have f6_ := blk_frozen X5 6
    have g6_ : w5.cell? ⟨nr, 6, none⟩ = some (.int .i64 0) := (blk_cell R5 6).trans rfl
    have k6_ := blk_frozen R5 6
    have c7_ : w5.cell? ⟨nx, 7, none⟩ = some (.int .i64 1) := (blk_cell X5 7).trans rfl
    have f7_ := blk_frozen X5 7
    have g7_ : w5.cell? ⟨nr, 7, none⟩ = some (.int .i64 0) := (blk_cell R5 7).trans rfl
    have k7_ := blk_frozen R5 7
    have c8_ : w5.cell? ⟨nx, 8, none⟩ = some (.int .i64 (wrap64 (ym - xm))) := (blk_cell X5 8).trans rfl
    have f8_ := blk_frozen X5 8
    have g8_ : w5.cell? ⟨nr, 8, none⟩ = some (.int .i64 0) := (blk_cell R5 8).trans rfl
    have k8_ := blk_frozen R5 8
    replace X5 := Aside0.mk X5
    replace R5 := Aside0.mk R5
    go_wp2
    have H0 := blk_far (p := ⟨nx, 7, none⟩) (blk_far (p := ⟨nx, 6, none⟩) R5.out m1_ (.int .i64 s1)) m1_ (.int .i64 s2)
    have H1 := blk_put (cs := #[.int .i64 0, .int .i64 0, .int .i64 0, .bool false, .int .i64 0, .int .i64 0, .int .i64 0, .int .i64 0, .int .i64 0]) (cs' := #[.int .i64 xa, .int .i64 0, .int .i64 0, .bool false, .int .i64 0, .int .i64 0, .int .i64 0, .int .i64 0, .int .i64 0]) H0 0 (.int .i64 xa) rfl
    have H2 := blk_put (cs := #[.int .i64 xa, .int .i64 0, .int .i64 0, .bool false, .int .i64 0, .int .i64 0, .int .i64 0, .int .i64 0, .int .i64 0]) (cs' := #[.int .i64 xa, .int .i64 xb, .int .i64 0, .bool false, .int .i64 0, .int .i64 0, .int .i64 0, .int .i64 0, .int .i64 0]) H1 1 (.int .i64 xb) rfl
    have H3 := blk_put (cs := #[.int .i64 xa, .int .i64 xb, .int .i64 0, .bool false, .int .i64 0, .int .i64 0, .int .i64 0, .int .i64 0, .int .i64 0]) (cs' := #[.int .i64 xa, .int .i64 xb, .int .i64 xm, .bool false, .int .i64 0, .int .i64 0, .int .i64 0, .int .i64 0, .int .i64 0]) H2 2 (.int .i64 xm) rfl
    have H4 := blk_put (cs := #[.int .i64 xa, .int .i64 xb, .int .i64 xm, .bool false, .int .i64 0, .int .i64 0, .int .i64 0, .int .i64 0, .int .i64 0]) (cs' := #[.int .i64 xa, .int .i64 xb, .int .i64 xm, .bool true, .int .i64 0, .int .i64 0, .int .i64 0, .int .i64 0, .int .i64 0]) H3 3 (.bool true) rfl
    have H5 := blk_put (cs := #[.int .i64 xa, .int .i64 xb, .int .i64 xm, .bool true, .int .i64 0, .int .i64 0, .int .i64 0, .int .i64 0, .int .i64 0]) (cs' := #[.int .i64 xa, .int .i64 xb, .int .i64 xm, .bool true, .int .i64 d1, .int .i64 0, .int .i64 0, .int .i64 0, .int .i64 0]) H4 4 (.int .i64 d1) rfl
    have H6 := blk_put (cs := #[.int .i64 xa, .int .i64 xb, .int .i64 xm, .bool true, .int .i64 d1, .int .i64 0, .int .i64 0, .int .i64 0, .int .i64 0]) (cs' := #[.int .i64 xa, .int .i64 xb, .int .i64 xm, .bool true, .int .i64 d1, .int .i64 d2, .int .i64 0, .int .i64 0, .int .i64 0]) H5 5 (.int .i64 d2) rfl
    have H7 := blk_put (cs := #[.int .i64 xa, .int .i64 xb, .int .i64 xm, .bool true, .int .i64 d1, .int .i64 d2, .int .i64 0, .int .i64 0, .int .i64 0]) (cs' := #[.int .i64 xa, .int .i64 xb, .int .i64 xm, .bool true, .int .i64 d1, .int .i64 d2, .int .i64 s1, .int .i64 0, .int .i64 0]) H6 6 (.int .i64 s1) rfl
    have H8 := blk_put (cs := #[.int .i64 xa, .int .i64 xb, .int .i64 xm, .bool true, .int .i64 d1, .int .i64 d2, .int .i64 s1, .int .i64 0, .int .i64 0]) (cs' := #[.int .i64 xa, .int .i64 xb, .int .i64 xm, .bool true, .int .i64 d1, .int .i64 d2, .int .i64 s1, .int .i64 s2, .int .i64 0]) H7 7 (.int .i64 s2) rfl
    have H9 := blk_put (cs := #[.int .i64 xa, .int .i64 xb, .int .i64 xm, .bool true, .int .i64 d1, .int .i64 d2, .int .i64 s1, .int .i64 s2, .int .i64 0]) (cs' := #[.int .i64 xa, .int .i64 xb, .int .i64 xm, .bool true, .int .i64 d1, .int .i64 d2, .int .i64 s1, .int .i64 s2, .int .i64 (wrap64 (ym - xm))]) H8 8 (.int .i64 (wrap64 (ym - xm))) rfl
    refine bodyPost_ret (results_ct rfl _ _ nr 51 #[.int .i64 xa, .int .i64 xb, .int .i64 xm, .bool true, .int .i64 d1, .int .i64 d2, .int .i64 s1, .int .i64 s2, .int .i64 (wrap64 (ym - xm))] (0, 0) _ rfl H9 Try.underlying51 rfl (by kernel_rfl)) rfl ?_
    exact ⟨rfl, (below_set (below_set (below_set (below_set (below_set (below_set (below_set (below_set (below_set (below_set (below_set HB5 lx_) lx_) lr_) lr_) lr_) lr_) lr_) lr_) lr_) lr_) lr_)⟩
theorem tempo_reach.mono : ∀ l i p q k, LeO (tempo_reach.f k l i p q) (tempo_reach.f (k + 1) l i p q) := fun _ _ _ _ _ => LeO.refl _
theorem tempo_reach.calls (k : Nat) (A0 : Option Addr) (c0 : Nat) (l0 : List S36) (i p q r1 r2 r3 : Int) (r4 : Bool) (r5 r6 r7 r8 r9 r10 : Int) (w : World) (hr : Kd.C k36 w A0 l0.length l0) (hc : l0.length ≤ c0) (h : tempo_reach.f k l0 i p q = some (r1, r2, r3, r4, r5, r6, r7, r8, r9, r10)) :
    Calls Try.prog 27 #[.slice A0 l0.length c0, .int .i64 i, .agg #[.int .i64 p, .int .i64 q]] w fun e w' => e = .returned (.tuple #[.agg #[.int .i64 r1, .int .i64 r2, .int .i64 r3, .bool r4, .int .i64 r5, .int .i64 r6, .int .i64 r7, .int .i64 r8, .int .i64 r9], .int .i64 r10]) ∧ Below w.heap.size w w' := by
  unfold tempo_reach.f at h
  split at h
  next hcond =>
    obtain ⟨h0, h1, h2⟩ := hcond
    replace h := Option.bind_eq_some_iff.mp h
    obtain ⟨⟨d1, d2, d3⟩, hS, h⟩ := h
    simp only at h
    split at h
    next hb =>
      obtain ⟨hd, hx, hn⟩ := hb
      subst hd
      replace h := Option.bind_eq_some_iff.mp h
      obtain ⟨⟨b1, b2, b3⟩, hS2, h⟩ := h
      simp only at h
      split at h
      next hb3 =>
        subst hb3
        replace h := Option.bind_eq_some_iff.mp h
        obtain ⟨⟨s1, s2, s3⟩, hD, h⟩ := h
        have h3 := Option.some.inj h
        simp only [legI, Prod.mk.injEq] at h3
        obtain ⟨rfl, rfl, rfl, rfl, rfl, rfl, rfl, rfl, rfl, rfl⟩ := h3
        exact reach_ok A0 c0 l0 i p q d1 d2 b1 b2 s1 s2 s3 w hr hc h0 (by omega) h2 hS hx hS2 hD
      next hb3 =>
        have h3 := Option.some.inj h
        simp only [legI, Prod.mk.injEq] at h3
        obtain ⟨rfl, rfl, rfl, rfl, rfl, rfl, rfl, rfl, rfl, rfl⟩ := h3
        exact reach_go A0 c0 l0 i p q d1 d2 b1 b2 b3 w hr hc h0 (by omega) h2 hS hx hS2 hb3
    next hb =>
      have h3 := Option.some.inj h
      simp only [legI, Prod.mk.injEq] at h3
      obtain ⟨rfl, rfl, rfl, rfl, rfl, rfl, rfl, rfl, rfl, rfl⟩ := h3
      refine reach_err A0 c0 l0 i p q d1 d2 d3 w hr hc h0 h1 h2 hS ?_
      by_cases q1 : d3 = 0
      · by_cases q2 : (rd_T36 l0 i).f2 = true
        · right; right
          by_cases q3 : i + 1 = (l0.length : Int)
          · exact q3
          · exact absurd ⟨q1, q2, q3⟩ hb
        · right; left; exact Bool.eq_false_iff.mpr q2
      · exact .inl q1
  next => cases h

end Go.Proofs.Ytchjlkokfgmjaaa.Q
