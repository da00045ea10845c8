-- Written by a program of this session (myprint.py), function by function.
import Derived.Test.YtbncdlnnjhadgaaQ0
import Derived.Test.YtbncdlnnjhadgaaQ1
import Derived.Test.YtbncdlnnjhadgaaQ2
import Derived.Test.YtbncdlnnjhadgaaQ3
import Derived.Test.YtbncdlnnjhadgaaQ4
import Derived.BigRegion
import Derived.ChangeAlike
import Derived.IntWalk
import Derived.Laws.OwnMore
import Derived.LoopIn
import Derived.LoopNIn
import Derived.Maps.AppendAt
import Derived.OwnWalkIn
import Derived.RangeFuncBound
import Derived.RangeFuncBox
import Derived.RangeFuncCalls
import Derived.RangeFuncLeaves
import Derived.RangeFuncNested
import Derived.RegionIn
import Derived.RegionTactic
import Derived.Shelf.Abstract
import Derived.Shelf.RegionOpen
import Derived.Sort.CutIn
import Derived.TacticsInMore
import Derived.WalkKit
namespace Go.Proofs.Ytbncdlnnjhadgaa.Q
open Go.RowKit Go.Proofs.YtbncdlnnjhadgaaW.PrintWords Go.Proofs.YtbncdlnnjhadgaaW.PrintLast Go.Proofs.YtbncdlnnjhadgaaW.PrintMore
attribute [local go_sem] max2_int min2_int max_two min_two max_three min_three max_four min_four   -- for this text's walks alone
set_option linter.unusedVariables false
set_option linter.unusedSimpArgs false

attribute [local go_sem high] eqA26
/-! ### meter_Cut: function 24 -/
section
open Go.Shelf
/-- Pieces are cut off, up to some places, one behind the other: what the last one was cut to, the pieces, the greatest error. -/
def cutG : (Int × Int) × List (Int × Int) × Int → List (Int × Int) → Option ((Int × Int) × List (Int × Int) × Int)
  | s, [] => some s
  | s, t :: ts => (ratio_Sub.f t.1 t.2 s.1.1 s.1.2).bind fun r => cutG (t, s.2.1 ++ [(r.1, r.2.1)], mx s.2.2 r.2.2) ts
/-- Is a beat between two places? -/
def betB (b0 b1 e0 e1 : Int) (p : Int × Int) : Bool := decide (0 < cmpI p.1 p.2 b0 b1) && decide (cmpI p.1 p.2 e0 e1 < 0)
def cutF (n d : Int) (l : List Int) (b0 b1 e0 e1 : Int) : Option (List S26 × Int) :=
  if goodM n d l = true then (cutG ((b0, b1), [], 0) ((beatsP n d l).filter (betB b0 b1 e0 e1) ++ [(e0, e1)])).bind fun z => if z.2.2 = 0 then some (rowsP z.2.1, 0) else some ([], z.2.2) else none
def meter_Cut.f (k : Nat) (a0_0 : Int) (a0_1 : Int) (l0_2 : List Int) (a1_0 : Int) (a1_1 : Int) (a2_0 : Int) (a2_1 : Int) : Option (List S26 × Int) :=
  (meter_Right.f k a0_0 a0_1 l0_2).bind fun t => if t = true then ((meter_within.f a0_0 a0_1 l0_2 a1_0 a1_1).bind fun u => if u = true then
    (if rightB a2_0 a2_1 = true then (if a2_0 ≤ 0 then some ([], 2) else (ratio_Add.f a1_0 a1_1 a2_0 a2_1).bind fun r => if r.2.2 = 0 then
      ((ratio_Of.f a0_0 a0_1).bind fun q => if 0 < cmpI r.1 r.2.1 q.1 q.2.1 then some ([], 2) else cutF a0_0 a0_1 l0_2 a1_0 a1_1 r.1 r.2.1) else some ([], r.2.2)) else some ([], 2)) else some ([], 2)) else some ([], 50)
theorem meter_Cut.mono : ∀ a0 a1 a2 a3 a4 a5 a6 k, LeO (meter_Cut.f k a0 a1 a2 a3 a4 a5 a6) (meter_Cut.f (k + 1) a0 a1 a2 a3 a4 a5 a6) := by
  intro a0 a1 a2 a3 a4 a5 a6 k r h
  unfold meter_Cut.f at h ⊢
  obtain ⟨t, ht, h⟩ := Option.bind_eq_some_iff.mp h
  rw [meter_Right.mono _ _ _ _ _ ht]
  exact h
/-- Nothing has turned but four blocks, and what was laid anew. -/
def KeptBut (bF bE bO : Nat) (u : Value) (X Y : World) : Prop := X.heap.size ≤ Y.heap.size ∧ ∀ i, i < X.heap.size → i ≠ bF → i ≠ bE → i ≠ bO → some i ≠ u.ownBlock → Y.heap[i]? = X.heap[i]?
theorem ownsRow_lower {w : World} {b b' : Nat} {e : TypeId} {s : Nat} {v : Value} {n : Nat} {xs : List Value} (h : w.ownsRow b e s v n xs) (hb : b' ≤ b) : w.ownsRow b' e s v n xs := by
  refine ⟨h.1, ?_⟩
  rcases h.2 with h2 | ⟨g, cap, cur, h1, h2, h3⟩
  · exact .inl h2
  · exact .inr ⟨g, cap, cur, h1, Nat.le_trans hb h2, h3⟩
theorem ownsRow_ne {w : World} {b : Nat} {e : TypeId} {s : Nat} {v : Value} {n : Nat} {xs : List Value} (h : w.ownsRow b e s v n xs) (i : Nat) (hi : i < b ∨ w.heap.size ≤ i) : some i ≠ v.ownBlock := by
  rcases h.2 with ⟨rfl, _⟩ | ⟨g, cap, cur, rfl, h2, h3, _⟩
  · simp [Value.ownBlock]
  · intro e; simp [Value.ownBlock] at e; subst e
    have := (Array.getElem?_eq_some_iff.1 h3).1
    omega
theorem ownsRow_of_block {w w' : World} {b : Nat} {e : TypeId} {s : Nat} {v : Value} {n : Nat} {xs : List Value} (h : w.ownsRow b e s v n xs) (hk : ∀ g, some g = v.ownBlock → w'.heap[g]? = w.heap[g]?) : w'.ownsRow b e s v n xs := by
  refine ⟨h.1, ?_⟩
  rcases h.2 with h2 | ⟨g, cap, cur, rfl, h2, h3, h4⟩
  · exact .inl h2
  · exact .inr ⟨g, cap, cur, rfl, h2, (hk g rfl).trans h3, h4⟩
set_option maxHeartbeats 1000000 in
set_option maxRecDepth 100000 in
theorem cut1_ok (n₀ n₁ bF bE bO : Nat) (t1 t2 f1 f2 e : Int) (u : Value) (k : Nat) (xs : List Value) (x1 x2 x3 : Int) (W : World)
    (hF : W.heap[bF]? = some (.cells #[.int .i64 f1, .int .i64 f2] 26 (0, 0))) (hE : Boxed W bE 30 (.int .i64 e)) (hO : Boxed W bO 33 u) (hrow : W.ownsRow n₁ 26 2 u k xs)
    (hn : n₀ ≤ W.heap.size) (hn1 : n₁ ≤ W.heap.size) (hnF : n₀ ≤ bF) (hnE : n₀ ≤ bE) (hnO : n₀ ≤ bO) (h1F : bF < n₁) (h1E : bE < n₁) (h1O : bO < n₁) (hk : k ≤ 2000) (hS : ratio_Sub.f t1 t2 f1 f2 = some (x1, x2, x3)) :
    Calls Try.prog 39 #[.agg #[.int .i64 t1, .int .i64 t2], .pointer (some ⟨bF, 0, none⟩), .pointer (some ⟨bE, 0, none⟩), .pointer (some ⟨bO, 0, none⟩)] W fun e' W' => ∃ v, e' = .returned v ∧
      (W'.heap[bF]? = some (.cells #[.int .i64 t1, .int .i64 t2] 26 (0, 0)) ∧ Boxed W' bE 30 (.int .i64 (mx e x3)) ∧ ∃ u', Boxed W' bO 33 u' ∧ W'.ownsRow n₁ 26 2 u' (k + 1) (xs ++ [.int .i64 x1, .int .i64 x2])) ∧ KeptBut bF bE bO u W W' ∧ Below n₀ W W' := by
  have hu26 := Try.underlying26
  have hu30 := Try.underlying30
  have hB1 := below_alloc (Below.refl W.heap.size W) (.cells #[.int .i64 t1, .int .i64 t2] 26)
  have T0 := blk_new W (.cells #[.int .i64 t1, .int .i64 t2] 26)
  have hS' := fun W => ratio_Sub.calls t1 t2 f1 f2 x1 x2 x3 W hS
  have F0 := blk_alloc hF (.cells #[.int .i64 t1, .int .i64 t2] 26)
  have c0 : (W.alloc (.cells #[.int .i64 t1, .int .i64 t2] 26)).cell? ⟨bF, 0, none⟩ = some (.int .i64 f1) := (blk_cell F0 0).trans rfl
  have c1 : (W.alloc (.cells #[.int .i64 t1, .int .i64 t2] 26)).cell? ⟨bF, 1, none⟩ = some (.int .i64 f2) := (blk_cell F0 1).trans rfl
  go_enter Try.func39, Try.ntmps39
  go_wp2_with (fail)
  refine (hS' _).mono ?_
  rintro e' w1 ⟨rfl, hb⟩
  have F1 := blk_below F0 hb
  have T1 := blk_below T0 hb
  have E1 : Boxed w1 bE 30 _ := blk_below (blk_alloc hE (.cells #[.int .i64 t1, .int .i64 t2] 26)) hb
  have O1 : Boxed w1 bO 33 u := blk_below (blk_alloc hO (.cells #[.int .i64 t1, .int .i64 t2] 26)) hb
  have hrow1 := (hrow.alloc (.cells #[.int .i64 t1, .int .i64 t2] 26)).kept (grown_of_below hb none) (by cases u.ownBlock <;> simp)
  have hBB := below_step hB1 hb
  clear c0 c1
  go_upto_region 2 with (fail)
  have X2 := blk_new w1 (.cells #[.int .i64 x1, .int .i64 x2] 26)
  replace F1 := blk_alloc F1 (.cells #[.int .i64 x1, .int .i64 x2] 26)
  replace T1 := blk_alloc T1 (.cells #[.int .i64 x1, .int .i64 x2] 26)
  replace E1 : Boxed _ bE 30 _ := blk_alloc E1 (.cells #[.int .i64 x1, .int .i64 x2] 26)
  replace O1 : Boxed _ bO 33 _ := blk_alloc O1 (.cells #[.int .i64 x1, .int .i64 x2] 26)
  replace hrow1 := hrow1.alloc (.cells #[.int .i64 x1, .int .i64 x2] 26)
  replace hBB := below_alloc hBB (.cells #[.int .i64 x1, .int .i64 x2] 26)
  have hX : W.heap.size < w1.heap.size := blk_lt (blk_below T0 hb)
  clear hb hB1 T0 F0
  generalize (w1.alloc (.cells #[.int .i64 x1, .int .i64 x2] 26)) = w2 at *
  generalize w1.heap.size = bX at *
  have hc0 := E1.cell
  have hf0 := E1.frozen
  have hmx : (if e < x3 then x3 else e) = mx e x3 := rfl
  go_upto_region 3 with (fail)
  have nEO : bE ≠ bO := by rintro rfl; have h1 : w2.heap[bE]? = _ := E1; rw [show w2.heap[bE]? = _ from O1] at h1; cases h1
  have nFE : bF ≠ bE := by rintro rfl; rw [show w2.heap[bF]? = _ from E1] at F1; cases F1
  have nXE : bX ≠ bE := by rintro rfl; rw [show w2.heap[bX]? = _ from E1] at X2; cases X2
  have nTE : W.heap.size ≠ bE := by intro h; rw [h, show w2.heap[bE]? = _ from E1] at T1; cases T1
  have nXO : bX ≠ bO := by rintro rfl; rw [show w2.heap[bX]? = _ from O1] at X2; cases X2
  have nTO : W.heap.size ≠ bO := by intro h; rw [h, show w2.heap[bO]? = _ from O1] at T1; cases T1
  have nFO : bF ≠ bO := by rintro rfl; rw [show w2.heap[bF]? = _ from O1] at F1; cases F1
  have hown := ownsRow_ne hrow1 bE (.inl h1E)
  have hT0 := ownsRow_ne hrow W.heap.size (.inr (Nat.le_refl _))
  have E3 := E1.set (.int .i64 (mx e x3))
  have O3 := O1.other (B' := bE) (Ne.symm nEO) (.int .i64 (mx e x3))
  have F3 : (w2.setCell ⟨bE, 0, none⟩ (.int .i64 (mx e x3))).heap[bF]? = _ := (Below.heap_setCell w2 _ _ _ nFE).trans F1
  have X3 : (w2.setCell ⟨bE, 0, none⟩ (.int .i64 (mx e x3))).heap[bX]? = _ := (Below.heap_setCell w2 _ _ _ nXE).trans X2
  have T3 : (w2.setCell ⟨bE, 0, none⟩ (.int .i64 (mx e x3))).heap[W.heap.size]? = _ := (Below.heap_setCell w2 _ _ _ nTE).trans T1
  have hrow3 := hrow1.kept (grownBy_setCell' w2 bE (.int .i64 (mx e x3))) (.inr (Ne.symm hown))
  have K3 : KeptBut bF bE bO u W (w2.setCell ⟨bE, 0, none⟩ (.int .i64 (mx e x3))) := ⟨by have := hBB.size; simpa using this, fun i hi _ h2 _ _ => (Below.heap_setCell w2 _ _ _ h2).trans (hBB.block i hi)⟩
  have B3 : Below n₀ W (w2.setCell ⟨bE, 0, none⟩ (.int .i64 (mx e x3))) := (hBB.mono hn).setCell (p := ⟨bE, 0, none⟩) hnE _
  have hsz : W.heap.size ≤ (w2.setCell ⟨bE, 0, none⟩ (.int .i64 (mx e x3))).heap.size := by have := hBB.size; simpa using this
  clear hrow1 F1 X2 T1 E1 O1 hBB hc0 hf0 hmx
  generalize (w2.setCell ⟨bE, 0, none⟩ (.int .i64 (mx e x3))) = w3 at *
  have hc0 := O3.cell
  have hc1 : w3.cell? ⟨bX, 0, none⟩ = some (.int .i64 x1) := (blk_cell X3 0).trans rfl
  have hc2 : w3.cell? ⟨bX, 1, none⟩ = some (.int .i64 x2) := (blk_cell X3 1).trans rfl
  obtain ⟨i0, hi, hz0, hz1, hz2⟩ := info_parts info26
  go_upto_region 4 with (first
    | (at_builtin; refine wpList_append_own _ rfl _ _ 33 rfl n₁ 26 i0 _ 2 16 Try.underlying33 hi hz0 hz1 hz2 rfl (by decide) _ _ _ rfl (hrow3.alloc _) ⟨w3.heap.size, 0, none⟩ 1 1 [.int .i64 x1, .int .i64 x2] rfl rfl (cell_two_new _ _ _ _) (by simp [Value.oneCell']) (by simp [maxLen]; omega) (by omega) (by simp; omega) ?_; intro v' w4 hown' hgrow _; obtain ⟨g', cap', rfl⟩ := ownsRow_succ hown'; obtain ⟨hv1, hv2, hr2, hk2, hb2⟩ := O3.appended (by decide) (ownsRow_lower hrow3 (Nat.le_trans hnO (Nat.le_of_lt h1O))) (by omega) hnO (ownsRow_lower hown' (Nat.le_trans hnO (Nat.le_of_lt h1O))) hgrow; have hc1 := hv1.cell; have hf1 := hv1.frozen))
  have kk : ∀ i, i < w3.heap.size → i ≠ bO → some i ≠ u.ownBlock → (w4.setCell ⟨bO, 0, none⟩ (.slice (some ⟨g', 0, none⟩) (k + 1) cap')).heap[i]? = w3.heap[i]? := fun i h1 h2 h3 =>
    (Below.heap_setCell w4 _ _ _ h2).trans ((hgrow.block i (by simp; omega) h3).trans (Below.heap_alloc w3 _ i h1))
  have kE := ownsRow_ne hrow3 bE (.inl h1E)
  have kF := ownsRow_ne hrow3 bF (.inl h1F)
  have E5 : Boxed (w4.setCell ⟨bO, 0, none⟩ (.slice (some ⟨g', 0, none⟩) (k + 1) cap')) bE 30 _ := (kk bE E3.lt nEO kE).trans E3
  have F5 : (w4.setCell ⟨bO, 0, none⟩ (.slice (some ⟨g', 0, none⟩) (k + 1) cap')).heap[bF]? = _ := (kk bF (blk_lt F3) nFO kF).trans F3
  have T5 : (w4.setCell ⟨bO, 0, none⟩ (.slice (some ⟨g', 0, none⟩) (k + 1) cap')).heap[W.heap.size]? = _ := (kk W.heap.size (blk_lt T3) nTO hT0).trans T3
  have R5 : (w4.setCell ⟨bO, 0, none⟩ (.slice (some ⟨g', 0, none⟩) (k + 1) cap')).ownsRow n₁ 26 2 _ _ _ := hown'.kept (grownBy_setCell' w4 bO _) (.inr (Ne.symm (ownsRow_ne hown' bO (.inl h1O))))
  have B5 := B3.trans hb2
  have K5 : KeptBut bF bE bO u W (w4.setCell ⟨bO, 0, none⟩ (.slice (some ⟨g', 0, none⟩) (k + 1) cap')) := ⟨by have h1 := hgrow.size; have h2 := K3.1; simp at h1 ⊢; omega, fun i hi h1 h2 h3 h4 => (kk i (by omega) h3 h4).trans (K3.2 i hi h1 h2 h3 h4)⟩
  clear hc0 hc1 hc2 hv1 hf1 hrow3 hown' hgrow hr2 hk2 hb2 E3 F3 T3 X3 K3 B3 O3 kk
  generalize (w4.setCell ⟨bO, 0, none⟩ (.slice (some ⟨g', 0, none⟩) (k + 1) cap')) = w5 at *
  have c0 : w5.cell? ⟨W.heap.size, 0, none⟩ = some (.int .i64 t1) := (blk_cell T5 0).trans rfl
  have c1 : w5.cell? ⟨W.heap.size, 1, none⟩ = some (.int .i64 t2) := (blk_cell T5 1).trans rfl
  have c2 : w5.cell? ⟨bF, 0, none⟩ = some (.int .i64 f1) := (blk_cell F5 0).trans rfl
  have c3 : w5.cell? ⟨bF, 1, none⟩ = some (.int .i64 f2) := (blk_cell F5 1).trans rfl
  have f0 := blk_frozen F5 0
  have f1' := blk_frozen F5 1
  go_wp2_with (fail)
  go_end0
  have kS : ∀ i, i ≠ bF → ((w5.setCell ⟨bF, 0, none⟩ (.int .i64 t1)).setCell ⟨bF, 1, none⟩ (.int .i64 t2)).heap[i]? = w5.heap[i]? := fun i h => (Below.heap_setCell _ _ _ i h).trans (Below.heap_setCell _ _ _ i h)
  refine ⟨_, rfl, ⟨blk_put (cs := #[.int .i64 t1, .int .i64 f2]) (blk_put F5 0 _ rfl) 1 _ rfl, (kS bE (Ne.symm nFE)).trans E5, _, (kS bO (Ne.symm nFO)).trans hv2, ?_⟩, ?_, ?_⟩
  · exact ownsRow_of_block R5 (fun g hg => kS g (fun e => ownsRow_ne R5 bF (.inl h1F) (e ▸ hg)))
  · exact ⟨by have := K5.1; simpa using this, fun i hi h1 h2 h3 h4 => (kS i h1).trans (K5.2 i hi h1 h2 h3 h4)⟩
  · exact (B5.setCell (p := ⟨bF, 0, none⟩) hnF _).setCell (p := ⟨bF, 1, none⟩) hnF _
attribute [local go_sem] Oper.semAt_some
theorem sto_func (P : Program) (w : World) (a : Addr) (m : Mode) (fn : Fn) (x y : Array Value) : (store a (.func fn x y) m).run P w = stored P w a (.func fn x y) m := run_store P w a _ m rfl
attribute [local go_sem] sto_func
/-- Cut's variables, before the first piece. -/
structure CutFC (W : World) (b : Nat) (n d : Int) (v : Value) (x y p q ev : Int) : Prop where
  m : W.heap[b]? = some (.cells #[.int .i64 n, .int .i64 d, v] 24 (0, 0))
  a : W.heap[b + 1]? = some (.cells #[.int .i64 x, .int .i64 y] 26 (0, 0))
  c : W.heap[b + 1 + 1]? = some (.cells #[.int .i64 p, .int .i64 q] 26 (0, 0))
  o : Boxed W (b + 1 + 1 + 1) 33 (.slice none 0 0)
  e : Boxed W (b + 1 + 1 + 1 + 1) 30 (.int .i64 ev)
theorem CutFC.new (w : World) (n d : Int) (v : Value) (x y p q : Int) : CutFC (((((w.alloc (.cells #[.int .i64 n, .int .i64 d, v] 24)).alloc (.cells #[.int .i64 x, .int .i64 y] 26)).alloc (.cells #[.int .i64 p, .int .i64 q] 26)).alloc (.cells #[.slice none 0 0] 33)).alloc (.cells #[.int .i64 0] 30)) w.heap.size n d v x y p q 0 := by
  have h1 := blk_new (w.alloc (.cells #[.int .i64 n, .int .i64 d, v] 24)) (.cells #[.int .i64 x, .int .i64 y] 26)
  have h2 := blk_new ((w.alloc (.cells #[.int .i64 n, .int .i64 d, v] 24)).alloc (.cells #[.int .i64 x, .int .i64 y] 26)) (.cells #[.int .i64 p, .int .i64 q] 26)
  have h3 := blk_new (((w.alloc (.cells #[.int .i64 n, .int .i64 d, v] 24)).alloc (.cells #[.int .i64 x, .int .i64 y] 26)).alloc (.cells #[.int .i64 p, .int .i64 q] 26)) (.cells #[.slice none 0 0] 33)
  have h4 := blk_new ((((w.alloc (.cells #[.int .i64 n, .int .i64 d, v] 24)).alloc (.cells #[.int .i64 x, .int .i64 y] 26)).alloc (.cells #[.int .i64 p, .int .i64 q] 26)).alloc (.cells #[.slice none 0 0] 33)) (.cells #[.int .i64 0] 30)
  simp only [World.size_alloc] at h1 h2 h3 h4
  exact ⟨blk_alloc (blk_alloc (blk_alloc (blk_alloc (blk_new w _) _) _) _) _, blk_alloc (blk_alloc (blk_alloc h1 _) _) _, blk_alloc (blk_alloc h2 _) _, blk_alloc h3 _, h4⟩
theorem CutFC.step {W W2 : World} {b : Nat} {n d : Int} {v : Value} {x y p q ev : Int} (h : CutFC W b n d v x y p q ev) (hb : Below W.heap.size W W2) : CutFC W2 b n d v x y p q ev := ⟨blk_below h.m hb, blk_below h.a hb, blk_below h.c hb, blk_below h.o hb, blk_below h.e hb⟩
theorem CutFC.cells {W : World} {b : Nat} {n d : Int} {v : Value} {x y p q ev : Int} (h : CutFC W b n d v x y p q ev) : W.cell? ⟨b, 0, none⟩ = some (.int .i64 n) ∧ W.cell? ⟨b, 1, none⟩ = some (.int .i64 d) ∧ W.cell? ⟨b, 2, none⟩ = some v ∧ W.cell? ⟨b + 1, 0, none⟩ = some (.int .i64 x) ∧ W.cell? ⟨b + 1, 1, none⟩ = some (.int .i64 y) ∧ W.cell? ⟨b + 1 + 1, 0, none⟩ = some (.int .i64 p) ∧ W.cell? ⟨b + 1 + 1, 1, none⟩ = some (.int .i64 q) ∧ W.cell? ⟨b + 1 + 1 + 1, 0, none⟩ = some (.slice none 0 0) ∧ W.cell? ⟨b + 1 + 1 + 1 + 1, 0, none⟩ = some (.int .i64 ev) ∧ W.frozen? ⟨b + 1 + 1 + 1, 0, none⟩ = false ∧ W.frozen? ⟨b + 1 + 1 + 1 + 1, 0, none⟩ = false :=
  ⟨(blk_cell h.m 0).trans rfl, (blk_cell h.m 1).trans rfl, (blk_cell h.m 2).trans rfl, (blk_cell h.a 0).trans rfl, (blk_cell h.a 1).trans rfl, (blk_cell h.c 0).trans rfl, (blk_cell h.c 1).trans rfl, h.o.cell, h.e.cell, h.o.frozen, h.e.frozen⟩
theorem CutFC.put {W : World} {b : Nat} {n d : Int} {v : Value} {x y p q ev : Int} (h : CutFC W b n d v x y p q ev) (ew : Int) : CutFC (W.setCell ⟨b + 1 + 1 + 1 + 1, 0, none⟩ (.int .i64 ew)) b n d v x y p q ew :=
  have k : ∀ i, i ≠ b + 1 + 1 + 1 + 1 → (W.setCell ⟨b + 1 + 1 + 1 + 1, 0, none⟩ (.int .i64 ew)).heap[i]? = W.heap[i]? := fun i hi => Below.heap_setCell _ _ _ i hi
  ⟨(k _ (by omega)).trans h.m, (k _ (by omega)).trans h.a, (k _ (by omega)).trans h.c, (k _ (by omega)).trans h.o, h.e.set _⟩
/-- What Cut hands back, and what lies behind it. -/
def CutPost (w : World) (r1 : List S26) (r2 : Int) (e : Ending) (w' : World) : Prop := ∃ v0_ : Value, e = .returned (.tuple #[v0_, .int .i64 r2]) ∧ Kd.R k26 26 w' w.heap.size (fun _ => True) v0_ r1 ∧ Below w.heap.size w w'
theorem ret24X {w X : World} {b : Nat} {r2 : Int} (tmps : Array Value) (hb : b = w.heap.size) (h6 : tmps[6]?.getD undef = .pointer (some ⟨b + 1 + 1 + 1, 0, none⟩)) (h7 : tmps[7]?.getD undef = .pointer (some ⟨b + 1 + 1 + 1 + 1, 0, none⟩)) (hO : Boxed X (b + 1 + 1 + 1) 33 (.slice none 0 0)) (hE : Boxed X (b + 1 + 1 + 1 + 1) 30 (.int .i64 r2)) (hB : Below w.heap.size w X) :
    bodyPostM Fence.wide 6 Try.prog Try.f24 (CutPost w [] r2) .ret { tmps := tmps, defers := [] } X := by
  subst hb
  show LeavesIn Fence.wide 6 Try.prog Try.f24 tmps _ [] .returning _
  have hu30 := Try.underlying30
  have hu33 := Try.underlying33
  refine ⟨.tuple #[.slice none 0 0, .int .i64 r2], ?_, _, rfl, rowsP_R (ps := []) (own_nil _ _ _ _) rfl, hB⟩
  simp [results, h6, h7, hO.cell, hE.cell, go_sem]
theorem two24 {w W : World} {b : Nat} {r2 : Int} {u0 u1 : Value} (hb : b = w.heap.size) (hO : Boxed W (b + 1 + 1 + 1) 33 u0) (hE : Boxed W (b + 1 + 1 + 1 + 1) 30 u1) (hB : Below w.heap.size w W) (v : Value) :
    Boxed ((W.setCell ⟨b + 1 + 1 + 1, 0, none⟩ v).setCell ⟨b + 1 + 1 + 1 + 1, 0, none⟩ (.int .i64 r2)) (b + 1 + 1 + 1) 33 v ∧ Boxed ((W.setCell ⟨b + 1 + 1 + 1, 0, none⟩ v).setCell ⟨b + 1 + 1 + 1 + 1, 0, none⟩ (.int .i64 r2)) (b + 1 + 1 + 1 + 1) 30 (.int .i64 r2) ∧ Below w.heap.size w ((W.setCell ⟨b + 1 + 1 + 1, 0, none⟩ v).setCell ⟨b + 1 + 1 + 1 + 1, 0, none⟩ (.int .i64 r2)) := by
  subst hb
  refine ⟨(hO.set v).other (B' := w.heap.size + 1 + 1 + 1 + 1) (by omega) _, (hE.other (B' := w.heap.size + 1 + 1 + 1) (by omega) v).set _, ?_⟩
  exact (hB.setCell (p := ⟨w.heap.size + 1 + 1 + 1, 0, none⟩) (by simp; omega) _).setCell (p := ⟨w.heap.size + 1 + 1 + 1 + 1, 0, none⟩) (by simp; omega) _
theorem ret24 {w W : World} {b : Nat} {r2 : Int} (tmps : Array Value) (hb : b = w.heap.size) (h6 : tmps[6]?.getD undef = .pointer (some ⟨b + 1 + 1 + 1, 0, none⟩)) (h7 : tmps[7]?.getD undef = .pointer (some ⟨b + 1 + 1 + 1 + 1, 0, none⟩)) {u0 u1 : Value} (hO : Boxed W (b + 1 + 1 + 1) 33 u0) (hE : Boxed W (b + 1 + 1 + 1 + 1) 30 u1) (hB : Below w.heap.size w W) :
    bodyPostM Fence.wide 6 Try.prog Try.f24 (CutPost w [] r2) .ret { tmps := tmps, defers := [] } ((W.setCell ⟨b + 1 + 1 + 1, 0, none⟩ (.slice none 0 0)).setCell ⟨b + 1 + 1 + 1 + 1, 0, none⟩ (.int .i64 r2)) :=
  have h := two24 (r2 := r2) hb hO hE hB (.slice none 0 0)
  ret24X tmps hb h6 h7 h.1 h.2.1 h.2.2
theorem ret24d {w W : World} {b : Nat} {r2 : Int} (tmps : Array Value) (hb : b = w.heap.size) (h6 : tmps[6]?.getD undef = .pointer (some ⟨b + 1 + 1 + 1, 0, none⟩)) (h7 : tmps[7]?.getD undef = .pointer (some ⟨b + 1 + 1 + 1 + 1, 0, none⟩)) {u0 u1 : Value} (hO : Boxed W (b + 1 + 1 + 1) 33 u0) (hE : Boxed W (b + 1 + 1 + 1 + 1) 30 u1) (hB : Below w.heap.size w W) :
    bodyPostM Fence.wide 6 Try.prog Try.f24 (CutPost w [] r2) .ret { tmps := tmps, defers := [] } ((W.setCell ⟨b + 1 + 1 + 1, 0, none⟩ (.slice none 0 0)).setCell ⟨b + 1 + 1 + 1 + 1, 0, none⟩ (.int .i64 r2)).drew :=
  have h := two24 (r2 := r2) hb hO hE hB (.slice none 0 0)
  ret24X tmps hb h6 h7 h.1 h.2.1 (below_drew1 h.2.2)
theorem wrap_in (n : Int) : -9223372036854775808 ≤ wrap64 n ∧ wrap64 n ≤ 9223372036854775807 := by unfold wrap64; omega
theorem absU_ne {b : Int} (h : b ≠ 0) (h1 : -9223372036854775808 ≤ b) (h2 : b ≤ 9223372036854775807) : absU b ≠ 0 := by
  unfold absU; split <;> simp only [IntKind.wrap_u64] <;> omega
theorem of_all (a b : Int) (h1 : -9223372036854775808 ≤ b) (h2 : b ≤ 9223372036854775807) : ∃ r, ratio_Of.f a b = some r := by
  unfold ratio_Of.f ratio_abs.f ratio_common.f
  by_cases h : b = 0
  · rw [if_pos h]; exact ⟨_, rfl⟩
  rw [if_neg h]
  simp only [Option.bind_some]
  rw [if_pos ⟨absU_nonneg a, absU_nonneg b⟩]
  simp only [Option.bind_some]
  have hb := absU_ne h h1 h2
  have hg : ((Int.gcd (absU a) (absU b) : Nat) : Int) ≠ 0 := by
    have : Int.gcd (absU a) (absU b) ≠ 0 := by rw [Ne, Int.gcd_eq_zero_iff]; omega
    omega
  rw [if_neg hg]
  split
  · exact ⟨_, rfl⟩
  · split <;> exact ⟨_, rfl⟩
theorem sub_all (a b c d : Int) : ∃ r, ratio_Sub.f a b c d = some r := by
  unfold ratio_Sub.f doI
  split
  · exact of_all _ _ (wrap_in _).1 (wrap_in _).2
  · exact ⟨_, rfl⟩
theorem cutG_all : ∀ (ts : List (Int × Int)) (s : (Int × Int) × List (Int × Int) × Int), ∃ z, cutG s ts = some z
  | [], s => ⟨s, rfl⟩
  | t :: ts, s => by
    obtain ⟨r, hr⟩ := sub_all t.1 t.2 s.1.1 s.1.2
    obtain ⟨z, hz⟩ := cutG_all ts (t, s.2.1 ++ [(r.1, r.2.1)], mx s.2.2 r.2.2)
    exact ⟨z, by rw [cutG, hr]; exact hz⟩
theorem cutG_append : ∀ (a b : List (Int × Int)) (s : (Int × Int) × List (Int × Int) × Int), cutG s (a ++ b) = (cutG s a).bind fun z => cutG z b
  | [], b, s => rfl
  | t :: a, b, s => by
    obtain ⟨r, hr⟩ := sub_all t.1 t.2 s.1.1 s.1.2
    rw [List.cons_append, cutG, cutG, hr]
    exact cutG_append a b _
theorem cutG_len : ∀ (ts : List (Int × Int)) (s z : (Int × Int) × List (Int × Int) × Int), cutG s ts = some z → z.2.1.length = s.2.1.length + ts.length
  | [], s, z, h => by obtain rfl := Option.some.inj h; simp
  | t :: ts, s, z, h => by
    rw [cutG] at h
    obtain ⟨r, hr, h⟩ := Option.bind_eq_some_iff.mp h
    have := cutG_len ts _ _ h
    simp at this ⊢; omega
theorem ownsRow_own {B : Nat} {W W' : World} {row : Option Nat} {b : Nat} {e : TypeId} {s : Nat} {v : Value} {n : Nat} {xs : List Value} (h : W.ownsRow b e s v n xs) (hg : W.grownBy W' row) (hr : ∀ r, row = some r → B ≤ r ∧ ∃ o : Obj, W.heap[r]? = some o ∧ o.isCells = false) : W'.ownsRow b e s v n xs := by
  refine ownsRow_of_block h fun g hgv => ?_
  rcases h.2 with ⟨rfl, _⟩ | ⟨g', cap, cur, rfl, h2, h3, _⟩
  · simp [Value.ownBlock] at hgv
  · simp [Value.ownBlock] at hgv
    subst hgv
    refine hg.block g (blk_lt h3) fun e => ?_
    obtain ⟨_, o, ho, hc⟩ := hr g e.symm
    rw [h3] at ho; cases ho; cases hc
/-- What Cut's variables hold between two rounds. -/
structure CutI (w w9 : World) (bF : Nat) (s : (Int × Int) × List (Int × Int) × Int) (W : World) : Prop where
  f : W.heap[bF]? = some (.cells #[.int .i64 s.1.1, .int .i64 s.1.2] 26 (0, 0))
  e : Boxed W (w.heap.size + 1 + 1 + 1 + 1) 30 (.int .i64 s.2.2)
  o : ∃ u, Boxed W (w.heap.size + 1 + 1 + 1) 33 u ∧ W.ownsRow w9.heap.size 26 2 u s.2.1.length (flatR s.2.1)
  sz : w9.heap.size ≤ W.heap.size
  k : ∀ i, i < w9.heap.size → i ≠ bF → i ≠ w.heap.size + 1 + 1 + 1 + 1 → i ≠ w.heap.size + 1 + 1 + 1 → W.heap[i]? = w9.heap[i]?
  b : Below w.heap.size w W
theorem CutI.own {β : Type} {w w9 : World} {bF : Nat} (h9 : w.heap.size ≤ w9.heap.size) (Q : β → (Int × Int) × List (Int × Int) × Int → Prop) : OwnFrom w9.heap.size (fun (p : β) W => ∃ s, Q p s ∧ CutI w w9 bF s W) := by
  intro p W W' row h hg hr
  obtain ⟨s, hQ, h⟩ := h
  refine ⟨s, hQ, ?_, ?_, ?_, Nat.le_trans h.sz hg.size, fun i hi h1 h2 h3 => ?_, ?_⟩
  · exact (grownBy_keeps_cells hg (fun r e => (hr r e).2) h.f rfl).trans h.f
  · exact (grownBy_keeps_cells hg (fun r e => (hr r e).2) h.e rfl).trans h.e
  · obtain ⟨u, hu, hrow⟩ := h.o
    exact ⟨u, (grownBy_keeps_cells hg (fun r e => (hr r e).2) hu rfl).trans hu, ownsRow_own hrow hg hr⟩
  · exact (hg.block i (Nat.lt_of_lt_of_le hi h.sz) (fun e => by have := (hr i e.symm).1; omega)).trans (h.k i hi h1 h2 h3)
  · exact (ownFrom_below (β := Unit) (Nat.le_refl _) h9) () W W' row h.b hg hr
theorem CutI.step {w w9 W W' : World} {bF : Nat} {s : (Int × Int) × List (Int × Int) × Int} (h : CutI w w9 bF s W) (hb : Below W.heap.size W W') : CutI w w9 bF s W' := by
  refine ⟨blk_below h.f hb, blk_below h.e hb, ?_, Nat.le_trans h.sz hb.size, fun i hi h1 h2 h3 => (hb.block i (Nat.lt_of_lt_of_le hi h.sz)).trans (h.k i hi h1 h2 h3), below_step h.b hb⟩
  obtain ⟨u, hu, hrow⟩ := h.o
  exact ⟨u, blk_below hu hb, hrow.kept (grown_of_below hb none) (by cases u.ownBlock <;> simp)⟩
theorem CutI.cut {w w9 W W' : World} {bF : Nat} {s : (Int × Int) × List (Int × Int) × Int} {t1 t2 x1 x2 x3 : Int} {u : Value} (h : CutI w w9 bF s W) (hu : Boxed W (w.heap.size + 1 + 1 + 1) 33 u) (hrow : W.ownsRow w9.heap.size 26 2 u s.2.1.length (flatR s.2.1))
    (h1 : W'.heap[bF]? = some (.cells #[.int .i64 t1, .int .i64 t2] 26 (0, 0)) ∧ Boxed W' (w.heap.size + 1 + 1 + 1 + 1) 30 (.int .i64 (mx s.2.2 x3)) ∧ ∃ u', Boxed W' (w.heap.size + 1 + 1 + 1) 33 u' ∧ W'.ownsRow w9.heap.size 26 2 u' (s.2.1.length + 1) (flatR s.2.1 ++ [.int .i64 x1, .int .i64 x2]))
    (h2 : KeptBut bF (w.heap.size + 1 + 1 + 1 + 1) (w.heap.size + 1 + 1 + 1) u W W') (h3 : Below w.heap.size W W') : CutI w w9 bF ((t1, t2), s.2.1 ++ [(x1, x2)], mx s.2.2 x3) W' := by
  obtain ⟨a1, a2, u', a3, a4⟩ := h1
  refine ⟨a1, a2, ⟨u', a3, ?_⟩, Nat.le_trans h.sz h2.1, fun i hi n1 n2 n3 => ?_, h.b.trans h3⟩
  · rw [flatR_snoc, List.length_append]; exact a4
  · exact (h2.2 i (Nat.lt_of_lt_of_le hi h.sz) n1 n2 n3 (ownsRow_ne hrow i (.inl hi))).trans (h.k i hi n1 n2 n3)
theorem KeptBut.keeps {bF bE bO : Nat} {u : Value} {X Y : World} {n₁ n : Nat} {xs : List Value} {cF : Array Value} {vE : Value} (h : KeptBut bF bE bO u X Y) (hF : X.heap[bF]? = some (.cells cF 26 (0, 0))) (hE : Boxed X bE 30 vE) (hO : Boxed X bO 33 u) (hrow : X.ownsRow n₁ 26 2 u n xs)
    (k : Nat) (o : Obj) (ho : X.heap[k]? = some o) (hc : o.isCells = false ∨ ∃ cs t fr, o = .cells cs t fr ∧ (t = 3 ∨ t = 24)) : Y.heap[k]? = some o := by
  have no : ∀ (cs : Array Value) (t : TypeId), o = .cells cs t (0, 0) → (t = 26 ∨ t = 30 ∨ t = 33) → False := by
    rintro cs t rfl ht
    rcases hc with hc | ⟨cs', t', fr', e, h3⟩
    · cases hc
    · cases e; rcases h3 with h3 | h3 <;> rcases ht with ht | ht | ht <;> (rw [h3] at ht; cases ht)
  refine (h.2 k (blk_lt ho) ?_ ?_ ?_ ?_).trans ho
  · intro e; rw [e, hF] at ho; exact no _ _ (Option.some.inj ho).symm (.inl rfl)
  · intro e; rw [e, show X.heap[bE]? = _ from hE] at ho; exact no _ _ (Option.some.inj ho).symm (.inr (.inl rfl))
  · intro e; rw [e, show X.heap[bO]? = _ from hO] at ho; exact no _ _ (Option.some.inj ho).symm (.inr (.inr rfl))
  · intro e
    rcases hrow.2 with ⟨rfl, _⟩ | ⟨g, cap, cur, rfl, h2, h3, _⟩
    · simp [Value.ownBlock] at e
    · simp [Value.ownBlock] at e; subst e
      rw [h3] at ho; exact no _ _ (Option.some.inj ho).symm (.inl rfl)
theorem ret24D {w X : World} {b D : Nat} {A : Option Addr} {nn c : Nat} {r1 : List S26} {r2 : Int} (tmps : Array Value) (hb : b = w.heap.size) (h6 : tmps[6]?.getD undef = .pointer (some ⟨b + 1 + 1 + 1, 0, none⟩)) (h7 : tmps[7]?.getD undef = .pointer (some ⟨b + 1 + 1 + 1 + 1, 0, none⟩)) (hO : Boxed X (b + 1 + 1 + 1) 33 (.slice A nn c)) (hE : Boxed X (b + 1 + 1 + 1 + 1) 30 (.int .i64 r2)) (hB : Below w.heap.size w X)
    (hK : X.heap[D]? = some (.deferred (some []))) (hD : w.heap.size ≤ D) (hR : Kd.R k26 26 (X.putObj D (.deferred none)) w.heap.size (fun _ => True) (.slice A nn c) r1) :
    bodyPostM Fence.wide 6 Try.prog Try.f24 (CutPost w r1 r2) .ret { tmps := tmps, defers := [{ target := .collected D, args := #[] }] } X := by
  subst hb
  have hu30 := Try.underlying30
  have hu33 := Try.underlying33
  have hO2 : (X.putObj D (.deferred none)).cell? ⟨w.heap.size + 1 + 1 + 1, 0, none⟩ = _ := cell_kept hO.cell (grownBy_putObj' _ D (.deferred none)) (fun r e => by cases e; exact ⟨_, hK, rfl⟩)
  have hE2 : (X.putObj D (.deferred none)).cell? ⟨w.heap.size + 1 + 1 + 1 + 1, 0, none⟩ = _ := cell_kept hE.cell (grownBy_putObj' _ D (.deferred none)) (fun r e => by cases e; exact ⟨_, hK, rfl⟩)
  refine ⟨by simp, .inl ⟨_, _, rfl, run_takeDeferred hK, ?_⟩⟩
  refine ⟨.tuple #[.slice A nn c, .int .i64 r2], ?_, _, rfl, hR, hB.trans (belowK_b (w := w) (Nat.le_refl _) _ D _ _ hD hK rfl rfl)⟩
  simp [results, h6, h7, hO2, hE2, go_sem]
set_option maxHeartbeats 4000000 in
set_option maxRecDepth 100000 in
theorem Cut_calls (k : Nat) (a0_0 : Int) (a0_1 : Int) (A0_2 : Option Addr) (c0_2 : Nat) (l0_2 : List Int) (a1_0 : Int) (a1_1 : Int) (a2_0 : Int) (a2_1 : Int) (r1 : List (S26)) (r2 : Int) (w : World) (hr0_2 : Kd.C (Kd.int .i64) w A0_2 l0_2.length l0_2) (hc0_2 : l0_2.length ≤ c0_2) (h : meter_Cut.f k a0_0 a0_1 l0_2 a1_0 a1_1 a2_0 a2_1 = some (r1, r2)) :
    Calls Try.prog 24 #[.agg #[.int .i64 a0_0, .int .i64 a0_1, .slice A0_2 l0_2.length c0_2], .agg #[.int .i64 a1_0, .int .i64 a1_1], .agg #[.int .i64 a2_0, .int .i64 a2_1]] w (CutPost w r1 r2) := by
  have hu24 := Try.underlying24
  have hu26 := Try.underlying26
  have hu30 := Try.underlying30
  have HR := fun W (hb : Below w.heap.size w W) t ht => meter_Right.calls k a0_0 a0_1 A0_2 c0_2 l0_2 t W (Kd.C_below hr0_2 hb) hc0_2 ht
  have HW := fun W (hb : Below w.heap.size w W) t ht => meter_within.calls a0_0 a0_1 A0_2 c0_2 l0_2 a1_0 a1_1 t W (Kd.C_below hr0_2 hb) hc0_2 ht
  unfold meter_Cut.f at h
  obtain ⟨t, hT, h⟩ := Option.bind_eq_some_iff.mp h
  refine (callsIn_wide (n := 6)).1 ?_
  refine callsIn_of_wp_marks Try.func24 rfl trivial ?_ rfl
  simp only [Try.ntmps24, List.size_toArray, List.length_cons, List.length_nil, Nat.reduceAdd, Nat.reduceSub, Array.replicate_succ, Array.replicate_zero, List.push_toArray, List.append_toArray, List.nil_append, List.cons_append]
  have hF0 := CutFC.new w a0_0 a0_1 (.slice A0_2 l0_2.length c0_2) a1_0 a1_1 a2_0 a2_1
  have hB0 : Below w.heap.size w (((((w.alloc (.cells #[.int .i64 a0_0, .int .i64 a0_1, .slice A0_2 l0_2.length c0_2] 24)).alloc (.cells #[.int .i64 a1_0, .int .i64 a1_1] 26)).alloc (.cells #[.int .i64 a2_0, .int .i64 a2_1] 26)).alloc (.cells #[.slice none 0 0] 33)).alloc (.cells #[.int .i64 0] 30)) := below_alloc (below_alloc (below_alloc (below_alloc (below_alloc (Below.refl _ _) _) _) _) _) _
  gi_wp2
  refine ⟨trivial, ?_⟩
  refine (callsIn_wide.2 (HR _ hB0 t hT)).mono ?_
  rintro e w1 ⟨rfl, hb1⟩
  replace hF0 := hF0.step hb1
  replace hB0 := below_step hB0 hb1
  clear hb1
  obtain ⟨c1, c2, c3, c4, c5, c6, c7, c8, c9, f1, f2⟩ := hF0.cells
  cases t with
  | false =>
    simp only [Bool.false_eq_true, if_false, Option.some.injEq, Prod.mk.injEq] at h
    obtain ⟨rfl, rfl⟩ := h
    clear HR HW hT
    gi_wp2
    exact ret24 _ rfl (by rfl) (by rfl) hF0.o hF0.e hB0
  | true =>
    simp only [if_true] at h
    obtain ⟨u, hU, h⟩ := Option.bind_eq_some_iff.mp h
    gi_wp2
    refine ⟨trivial, ?_⟩
    refine (callsIn_wide.2 (HW _ hB0 u hU)).mono ?_
    rintro e w2 ⟨rfl, hb2⟩
    replace hF0 := hF0.step hb2
    replace hB0 := below_step hB0 hb2
    clear hb2 c1 c2 c3 c4 c5 c6 c7 c8 c9 f1 f2
    obtain ⟨c1, c2, c3, c4, c5, c6, c7, c8, c9, f1, f2⟩ := hF0.cells
    cases u with
    | false =>
      simp only [Bool.false_eq_true, if_false, Option.some.injEq, Prod.mk.injEq] at h
      obtain ⟨rfl, rfl⟩ := h
      clear HR HW hT
      gi_wp2
      refine ⟨trivial, ?_⟩
      gi_wp2
      exact ret24 _ rfl (by rfl) (by rfl) hF0.o hF0.e hB0
    | true =>
      simp only [if_true] at h
      clear HR HW hT hU
      gi_wp2
      refine ⟨trivial, ?_⟩
      by_cases hx : rightB a2_0 a2_1 = true
      case neg =>
        rw [if_neg hx] at h
        simp only [Option.some.injEq, Prod.mk.injEq] at h
        obtain ⟨rfl, rfl⟩ := h
        refine (callsIn_wide.2 (Right_eq (Bool.eq_false_iff.mpr hx) _)).mono ?_
        rintro e w3 ⟨rfl, hb3⟩
        replace hF0 := hF0.step hb3
        replace hB0 := below_step hB0 hb3
        clear hb3 c1 c2 c3 c4 c5 c6 c7 c8 c9 f1 f2
        obtain ⟨c1, c2, c3, c4, c5, c6, c7, c8, c9, f1, f2⟩ := hF0.cells
        gi_wp2
        exact ret24 _ rfl (by rfl) (by rfl) hF0.o hF0.e hB0
      rw [if_pos hx] at h
      refine (callsIn_wide.2 (Right_eq hx _)).mono ?_
      rintro e w3 ⟨rfl, hb3⟩
      replace hF0 := hF0.step hb3
      replace hB0 := below_step hB0 hb3
      clear hb3 c1 c2 c3 c4 c5 c6 c7 c8 c9 f1 f2 hx
      obtain ⟨c1, c2, c3, c4, c5, c6, c7, c8, c9, f1, f2⟩ := hF0.cells
      by_cases hx : a2_0 ≤ 0
      · rw [if_pos hx] at h
        simp only [Option.some.injEq, Prod.mk.injEq] at h
        obtain ⟨rfl, rfl⟩ := h
        have hd : decide (a2_0 ≤ 0) = true := decide_eq_true hx
        clear hx
        gi_wp2
        exact ret24 _ rfl (by rfl) (by rfl) hF0.o hF0.e hB0
      · rw [if_neg hx] at h
        have hd : decide (a2_0 ≤ 0) = false := decide_eq_false hx
        clear hx
        obtain ⟨⟨x1, x2, x3⟩, hA, h⟩ := Option.bind_eq_some_iff.mp h
        simp only at h
        gi_wp2
        refine ⟨trivial, ?_⟩
        refine (callsIn_wide.2 (ratio_Add.calls _ _ _ _ _ _ _ _ hA)).mono ?_
        rintro e w4 ⟨rfl, hb4⟩
        have hlt4 := blk_lt hF0.e
        have hs4 := hb4.size
        replace hF0 := hF0.step hb4
        replace hB0 := below_step hB0 hb4
        clear hb4 c1 c2 c3 c4 c5 c6 c7 c8 c9 f1 f2 hd
        have hFx := hF0.step (below_alloc (Below.refl _ _) (.cells #[.int .i64 x1, .int .i64 x2] 26))
        have f2 := hFx.e.frozen
        have e2 := hFx.e.cell
        gi_upto_region 6 with (fail)
        clear f2 e2
        replace hB0 : Below w.heap.size w ((w4.alloc (.cells #[.int .i64 x1, .int .i64 x2] 26)).setCell ⟨w.heap.size + 1 + 1 + 1 + 1, 0, none⟩ (.int .i64 x3)) := (below_alloc hB0 _).setCell (p := ⟨w.heap.size + 1 + 1 + 1 + 1, 0, none⟩) (by simp; omega) _
        have hbN : w.heap.size + 1 + 1 + 1 + 1 < w4.heap.size := by omega
        replace hF0 := hFx.put x3
        have EN : ((w4.alloc (.cells #[.int .i64 x1, .int .i64 x2] 26)).setCell ⟨w.heap.size + 1 + 1 + 1 + 1, 0, none⟩ (.int .i64 x3)).heap[w4.heap.size]? = _ := (Below.heap_setCell _ _ _ _ (by show w4.heap.size ≠ w.heap.size + 1 + 1 + 1 + 1; omega)).trans (blk_new w4 (.cells #[.int .i64 x1, .int .i64 x2] 26))
        clear hFx
        have HSZ : ((w4.alloc (.cells #[.int .i64 x1, .int .i64 x2] 26)).setCell ⟨w.heap.size + 1 + 1 + 1 + 1, 0, none⟩ (.int .i64 x3)).heap.size = w4.heap.size + 1 := by simp
        generalize ((w4.alloc (.cells #[.int .i64 x1, .int .i64 x2] 26)).setCell ⟨w.heap.size + 1 + 1 + 1 + 1, 0, none⟩ (.int .i64 x3)) = W4 at *
        replace HSZ := Nat.le_of_eq HSZ.symm
        generalize w4.heap.size = bN at *
        clear hlt4 hs4
        obtain ⟨c1, c2, c3, c4, c5, c6, c7, c8, c9, f1, f2⟩ := hF0.cells
        have d1 : W4.cell? ⟨bN, 0, none⟩ = some (.int .i64 x1) := (blk_cell EN 0).trans rfl
        have d2 : W4.cell? ⟨bN, 1, none⟩ = some (.int .i64 x2) := (blk_cell EN 1).trans rfl
        by_cases hx3 : x3 = 0
        case neg =>
          rw [if_neg hx3] at h
          simp only [Option.some.injEq, Prod.mk.injEq] at h
          obtain ⟨rfl, rfl⟩ := h
          have hd : (x3 != 0) = true := by simpa using hx3
          have hd2 : decide (x3 = 0) = false := decide_eq_false hx3
          clear hx3
          gi_wp2
          gi_region
          gi_wp2
          exact ret24d _ rfl (by rfl) (by rfl) hF0.o hF0.e hB0
        subst hx3
        rw [if_pos rfl] at h
        obtain ⟨⟨q1, q2, q3⟩, hQ, h⟩ := Option.bind_eq_some_iff.mp h
        simp only at h
        gi_wp2
        refine ⟨trivial, ?_⟩
        refine (callsIn_wide.2 (ratio_Of.calls _ _ _ _ _ _ hQ)).mono ?_
        rintro e w5 ⟨rfl, hb5⟩
        clear c1 c2 c3 c4 c5 c6 c7 c8 c9 f1 f2 d1 d2
        have hs5 := hb5.size
        have hF5 := hF0.step hb5
        have hB5 := below_step hB0 hb5
        have EN5 := blk_below EN hb5
        clear hb5 hF0 hB0 EN
        have hB6 := below_alloc hB5 (.cells #[.int .i64 q1, .int .i64 q2] 26)
        have hF6 := hF5.step (below_alloc (Below.refl _ _) (.cells #[.int .i64 q1, .int .i64 q2] 26))
        have EN6 := blk_alloc EN5 (.cells #[.int .i64 q1, .int .i64 q2] 26)
        have L6 := blk_new w5 (.cells #[.int .i64 q1, .int .i64 q2] 26)
        obtain ⟨c1, c2, c3, c4, c5, c6, c7, c8, c9, f1, f2⟩ := hF6.cells
        have d1 : (w5.alloc (.cells #[.int .i64 q1, .int .i64 q2] 26)).cell? ⟨bN, 0, none⟩ = some (.int .i64 x1) := (blk_cell EN6 0).trans rfl
        have d2 : (w5.alloc (.cells #[.int .i64 q1, .int .i64 q2] 26)).cell? ⟨bN, 1, none⟩ = some (.int .i64 x2) := (blk_cell EN6 1).trans rfl
        have d3 : (w5.alloc (.cells #[.int .i64 q1, .int .i64 q2] 26)).cell? ⟨w5.heap.size, 0, none⟩ = some (.int .i64 q1) := (blk_cell L6 0).trans rfl
        have d4 : (w5.alloc (.cells #[.int .i64 q1, .int .i64 q2] 26)).cell? ⟨w5.heap.size, 1, none⟩ = some (.int .i64 q2) := (blk_cell L6 1).trans rfl
        have HS6 := Aside0.mk (World.size_alloc w5 (.cells #[.int .i64 q1, .int .i64 q2] 26))
        clear hF5 hB5 EN5 L6
        gi_upto_region 9 with (fail)
        generalize hWW : (w5.alloc (.cells #[.int .i64 q1, .int .i64 q2] 26)) = w6 at *
        generalize hbL : w5.heap.size = bL at *
        clear hWW hbL
        gi_wp2
        refine ⟨trivial, ?_⟩
        refine (callsIn_wide.2 (ratio_Compare.calls x1 x2 q1 q2 _ _ rfl)).mono ?_
        rintro e w7 ⟨rfl, hb7⟩
        replace hF6 := hF6.step hb7
        replace hB6 := below_step hB6 hb7
        replace EN6 := blk_below EN6 hb7
        have hs7 := hb7.size
        clear hb7 c1 c2 c3 c4 c5 c6 c7 c8 c9 f1 f2 d1 d2 d3 d4
        obtain ⟨c1, c2, c3, c4, c5, c6, c7, c8, c9, f1, f2⟩ := hF6.cells
        by_cases hx : 0 < cmpI x1 x2 q1 q2
        · rw [if_pos hx] at h
          simp only [Option.some.injEq, Prod.mk.injEq] at h
          obtain ⟨rfl, rfl⟩ := h
          have hd : decide (0 < cmpI x1 x2 q1 q2) = true := decide_eq_true hx
          clear hx
          gi_wp2
          exact ret24 _ rfl (by rfl) (by rfl) hF6.o hF6.e hB6
        rw [if_neg hx] at h
        have hd : decide (0 < cmpI x1 x2 q1 q2) = false := decide_eq_false hx
        clear hx
        gi_upto_region 13 with (fail)
        have hB8 := below_alloc (below_alloc hB6 (.cells #[.int .i64 a1_0, .int .i64 a1_1] 26)) (.cells #[.func (.func 39) #[] #[.pointer (some ⟨w7.heap.size, 0, none⟩), .pointer (some ⟨w.heap.size + 1 + 1 + 1 + 1, 0, none⟩), .pointer (some ⟨w.heap.size + 1 + 1 + 1, 0, none⟩)]] 60)
        have hF8 := (hF6.step (below_alloc (Below.refl _ _) (.cells #[.int .i64 a1_0, .int .i64 a1_1] 26))).step (below_alloc (Below.refl _ _) (.cells #[.func (.func 39) #[] #[.pointer (some ⟨w7.heap.size, 0, none⟩), .pointer (some ⟨w.heap.size + 1 + 1 + 1 + 1, 0, none⟩), .pointer (some ⟨w.heap.size + 1 + 1 + 1, 0, none⟩)]] 60))
        have EN8 := blk_alloc (blk_alloc EN6 (.cells #[.int .i64 a1_0, .int .i64 a1_1] 26)) (.cells #[.func (.func 39) #[] #[.pointer (some ⟨w7.heap.size, 0, none⟩), .pointer (some ⟨w.heap.size + 1 + 1 + 1 + 1, 0, none⟩), .pointer (some ⟨w.heap.size + 1 + 1 + 1, 0, none⟩)]] 60)
        have FR8 := blk_alloc (blk_new w7 (.cells #[.int .i64 a1_0, .int .i64 a1_1] 26)) (.cells #[.func (.func 39) #[] #[.pointer (some ⟨w7.heap.size, 0, none⟩), .pointer (some ⟨w.heap.size + 1 + 1 + 1 + 1, 0, none⟩), .pointer (some ⟨w.heap.size + 1 + 1 + 1, 0, none⟩)]] 60)
        have ON8 := blk_new (w7.alloc (.cells #[.int .i64 a1_0, .int .i64 a1_1] 26)) (.cells #[.func (.func 39) #[] #[.pointer (some ⟨w7.heap.size, 0, none⟩), .pointer (some ⟨w.heap.size + 1 + 1 + 1 + 1, 0, none⟩), .pointer (some ⟨w.heap.size + 1 + 1 + 1, 0, none⟩)]] 60)
        rw [World.size_alloc] at ON8
        have hEN6 := blk_lt EN6
        have hs8 : ((w7.alloc (.cells #[.int .i64 a1_0, .int .i64 a1_1] 26)).alloc (.cells #[.func (.func 39) #[] #[.pointer (some ⟨w7.heap.size, 0, none⟩), .pointer (some ⟨w.heap.size + 1 + 1 + 1 + 1, 0, none⟩), .pointer (some ⟨w.heap.size + 1 + 1 + 1, 0, none⟩)]] 60)).heap.size = w7.heap.size + 1 + 1 := by simp
        clear c1 c2 c3 c4 c5 c6 c7 c8 c9 f1 f2 hd hB6 hF6 EN6
        generalize hWW : ((w7.alloc (.cells #[.int .i64 a1_0, .int .i64 a1_1] 26)).alloc (.cells #[.func (.func 39) #[] #[.pointer (some ⟨w7.heap.size, 0, none⟩), .pointer (some ⟨w.heap.size + 1 + 1 + 1 + 1, 0, none⟩), .pointer (some ⟨w.heap.size + 1 + 1 + 1, 0, none⟩)]] 60)) = w8 at *
        clear hWW
        have hFs := hF8.e.lt
        have hbF : w.heap.size + 1 + 1 + 1 + 1 < w7.heap.size := by omega
        generalize w7.heap.size = bF at *
        replace hs8 := Nat.le_of_eq hs8.symm
        obtain ⟨c1, c2, c3, c4, c5, c6, c7, c8, c9, f1, f2⟩ := hF8.cells
        gi_wp2
        refine ⟨trivial, ?_⟩
        refine (callsIn_wide.2 (beats_call a0_0 a0_1 (.slice A0_2 l0_2.length c0_2) w8)).mono ?_
        rintro e w9 ⟨rfl, rfl⟩
        have hb9 := below_alloc (Below.refl w8.heap.size w8) (.cells #[.int .i64 a0_0, .int .i64 a0_1, .slice A0_2 l0_2.length c0_2] 24)
        have BN9 := blk_new w8 (.cells #[.int .i64 a0_0, .int .i64 a0_1, .slice A0_2 l0_2.length c0_2] 24)
        have hF9 := hF8.step hb9
        have hB9 := below_step hB8 hb9
        have EN9 := blk_below EN8 hb9
        have FR9 := blk_below FR8 hb9
        have ON9 := blk_below ON8 hb9
        have hs9 : w8.heap.size < (w8.alloc (.cells #[.int .i64 a0_0, .int .i64 a0_1, .slice A0_2 l0_2.length c0_2] 24)).heap.size := by simp
        clear c1 c2 c3 c4 c5 c6 c7 c8 c9 f1 f2 hb9 hF8 hB8 EN8 FR8 ON8
        gi_wp2
        generalize hWW : (w8.alloc (.cells #[.int .i64 a0_0, .int .i64 a0_1, .slice A0_2 l0_2.length c0_2] 24)) = w9 at *
        generalize hbm : w8.heap.size = Bm at *
        clear hWW hbm
        rw [cutF] at h
        split at h
        case isFalse => cases h
        rename_i hgood
        obtain ⟨z, hz, h⟩ := Option.bind_eq_some_iff.mp h
        rw [cutG_append] at hz
        obtain ⟨z1, hz1, hz⟩ := Option.bind_eq_some_iff.mp hz
        obtain ⟨g1, g2, g3, g4, g5, g6⟩ := goodM_of hgood
        have h9 : w.heap.size ≤ w9.heap.size := hB9.size
        refine wpIn_rangeFunc_ownH rfl (by omega) (gf := 52) (lb := #[.pointer (some ⟨Bm, 0, none⟩)]) rfl trivial (enters_of Try.func52 (by kernel_rfl) rfl)
          (beats_stops 5 (by omega) Bm a0_0 a0_1 (.slice A0_2 l0_2.length c0_2) (grp a0_0 a0_1 l0_2) w9 (KM w.heap.size) KM.trans KM.of_below (fun h hm => h.2.2 _ _ _ _ hm (.inr rfl)) BN9
            (fun W hb => groups_ok a0_0 a0_1 A0_2 c0_2 l0_2 w W g1 g2 hr0_2 hc0_2 (hB9.trans (hb.mono hB9.size))) (of_some g3 g4) (good_sums hgood) (by omega))
          KM.trans (KM.putObj hB9.size) (Below.refl _ _) (fun _ => rfl)
          (fun (pre : List (Int × Int)) W => ∃ s, cutG ((a1_0, a1_1), [], 0) (pre.filter (betB a1_0 a1_1 x1 x2)) = some s ∧ CutI w w9 bF s W)
          (fun _ _ _ => False)
          (CutI.own h9 (fun (pre : List (Int × Int)) s => cutG ((a1_0, a1_1), [], 0) (pre.filter (betB a1_0 a1_1 x1 x2)) = some s))
          (fun _ _ _ _ _ hs _ _ => hs)
          ⟨_, rfl, FR9, hF9.e, ⟨_, hF9.o, own_nil _ _ _ _⟩, Nat.le_refl _, fun _ _ _ _ _ => rfl, hB9⟩
          (fun x a' W => ∃ Bx, w9.heap.size ≤ Bx ∧ W.heap[Bx]? = some (.cells #[.int .i64 x.1, .int .i64 x.2] 26 (0, 0)) ∧ a' = { tmps := #[.agg #[.int .i64 a0_0, .int .i64 a0_1, .slice A0_2 l0_2.length c0_2], .agg #[.int .i64 a1_0, .int .i64 a1_1], .agg #[.int .i64 a2_0, .int .i64 a2_1], .pointer (some ⟨w.heap.size, 0, none⟩), .pointer (some ⟨w.heap.size + 1, 0, none⟩), .pointer (some ⟨w.heap.size + 1 + 1, 0, none⟩), .pointer (some ⟨w.heap.size + 1 + 1 + 1, 0, none⟩), .pointer (some ⟨w.heap.size + 1 + 1 + 1 + 1, 0, none⟩), .pointer (some ⟨bN, 0, none⟩), .pointer (some ⟨bL, 0, none⟩), .int .i64 q3, .pointer (some ⟨bF, 0, none⟩), .pointer (some ⟨bF + 1, 0, none⟩), .pointer (some ⟨Bx, 0, none⟩), .bool false, .agg #[.int .i64 a0_0, .int .i64 a0_1, .slice A0_2 l0_2.length c0_2], .bool true, .bool false, .bool false, .agg #[.int .i64 a0_0, .int .i64 a0_1, .slice A0_2 l0_2.length c0_2], .agg #[.int .i64 a1_0, .int .i64 a1_1], .bool true, .bool false, .bool false, .agg #[.int .i64 a2_0, .int .i64 a2_1], .bool true, .bool false, .bool false, .bool false, .pointer (some ⟨w.heap.size + 1 + 1, 0, none⟩), .int .i64 a2_0, .bool false, .bool false, .tuple #[.agg #[.int .i64 x1, .int .i64 x2], .int .i64 0], .agg #[.int .i64 a1_0, .int .i64 a1_1], .agg #[.int .i64 a2_0, .int .i64 a2_1], .tuple #[.agg #[.int .i64 x1, .int .i64 x2], .int .i64 0], .agg #[.int .i64 x1, .int .i64 x2], .int .i64 0, .int .i64 0, .bool false, undef, .tuple #[.agg #[.int .i64 q1, .int .i64 q2], .int .i64 q3], .pointer (some ⟨w.heap.size, 0, none⟩), .int .i64 a0_0, .pointer (some ⟨w.heap.size, 1, none⟩), .int .i64 a0_1, .tuple #[.agg #[.int .i64 q1, .int .i64 q2], .int .i64 q3], .agg #[.int .i64 q1, .int .i64 q2], .int .i64 q3, .agg #[.int .i64 x1, .int .i64 x2], .agg #[.int .i64 q1, .int .i64 q2], .int .i64 (cmpI x1 x2 q1 q2), .bool false, .agg #[.int .i64 a1_0, .int .i64 a1_1], .func (.func 39) #[] #[.pointer (some ⟨bF, 0, none⟩), .pointer (some ⟨w.heap.size + 1 + 1 + 1 + 1, 0, none⟩), .pointer (some ⟨w.heap.size + 1 + 1 + 1, 0, none⟩)], .agg #[.int .i64 a0_0, .int .i64 a0_1, .slice A0_2 l0_2.length c0_2], .func (.func 52) #[] #[.pointer (some ⟨Bm, 0, none⟩)], .agg #[.int .i64 x.1, .int .i64 x.2], undef, undef, undef, undef, undef, undef, undef, undef, undef, undef, undef, undef, undef, undef, undef, undef, undef, undef, undef, undef], defers := [] }) ?hAx ?assign ?body ?done ?stop
        case hAx =>
          rintro x a' s X Y row ⟨Bx, h1, h2, h3⟩ hg hr
          exact ⟨Bx, h1, (grownBy_keeps_cells hg (fun r e => (hr r e).2) h2 rfl).trans h2, h3⟩
        case assign =>
          rintro l pre x W K ⟨s, hs, hC⟩ hK
          simp only [encR]
          gi_wp2
          have hbl : Below W.heap.size W (W.alloc (.cells #[.int .i64 x.1, .int .i64 x.2] 26)) := below_alloc (Below.refl _ _) _
          exact hK _ _ ((KeepsOthers.alloc _ _).from _) (KM.of_below hbl) ⟨s, hs, hC.step hbl⟩ ⟨W.heap.size, hC.sz, blk_new W _, rfl⟩
        case body =>
          rintro l pre x a' W hl ⟨r, hr⟩ ⟨s, hs, hC⟩ ⟨Bx, hBx, bX, rfl⟩ hlt
          have x0 : W.cell? ⟨Bx, 0, none⟩ = some (.int .i64 x.1) := (blk_cell bX 0).trans rfl
          have x1' : W.cell? ⟨Bx, 1, none⟩ = some (.int .i64 x.2) := (blk_cell bX 1).trans rfl
          have hsF := hs9
          have kA := (hC.k (w.heap.size + 1) (by omega) (by omega) (by omega) (by omega)).trans hF9.a
          have kN := (hC.k bN (by omega) (by omega) (by omega) (by omega)).trans EN9
          have kO := (hC.k (bF + 1) (by omega) (by omega) (by omega) (by omega)).trans ON9
          have a0 : W.cell? ⟨w.heap.size + 1, 0, none⟩ = some (.int .i64 a1_0) := (blk_cell kA 0).trans rfl
          have a1 : W.cell? ⟨w.heap.size + 1, 1, none⟩ = some (.int .i64 a1_1) := (blk_cell kA 1).trans rfl
          gi_wp2
          refine ⟨trivial, ?_⟩
          refine (CallsIn.inRound l (callsIn_wide.2 (ratio_Compare.calls x.1 x.2 a1_0 a1_1 _ _ rfl))).mono ?_
          rintro e W1 ⟨rfl, hb1⟩
          have hC1 := hC.step hb1
          have bX1 := blk_below bX hb1
          have kN1 := blk_below kN hb1
          have kO1 := blk_below kO hb1
          clear x0 x1' a0 a1 kA kN kO
          have x0 : W1.cell? ⟨Bx, 0, none⟩ = some (.int .i64 x.1) := (blk_cell bX1 0).trans rfl
          have x1' : W1.cell? ⟨Bx, 1, none⟩ = some (.int .i64 x.2) := (blk_cell bX1 1).trans rfl
          have n0 : W1.cell? ⟨bN, 0, none⟩ = some (.int .i64 x1) := (blk_cell kN1 0).trans rfl
          have n1 : W1.cell? ⟨bN, 1, none⟩ = some (.int .i64 x2) := (blk_cell kN1 1).trans rfl
          by_cases hp : 0 < cmpI x.1 x.2 a1_0 a1_1
          case neg =>
            have hd : decide (0 < cmpI x.1 x.2 a1_0 a1_1) = false := decide_eq_false hp
            have hbt : betB a1_0 a1_1 x1 x2 x = false := by unfold betB; rw [hd]; rfl
            clear hp
            gi_wp2
            refine ⟨trivial, ?_⟩
            gi_wp2
            exact ⟨⟨hb1.size, fun k o _ h0 _ => blk_below h0 hb1⟩, KM.of_below hb1, s, by rw [List.filter_append]; simpa [hbt] using hs, hC1⟩
          have hd : decide (0 < cmpI x.1 x.2 a1_0 a1_1) = true := decide_eq_true hp
          clear hp
          gi_wp2
          refine ⟨trivial, ?_⟩
          refine (CallsIn.inRound l (callsIn_wide.2 (ratio_Compare.calls x.1 x.2 x1 x2 _ _ rfl))).mono ?_
          rintro e W2 ⟨rfl, hb2⟩
          have hC2 := hC1.step hb2
          have bX2 := blk_below bX1 hb2
          have kO2 := blk_below kO1 hb2
          have hbb := hb1.trans (hb2.mono hb1.size)
          clear x0 x1' n0 n1 bX1 kN1 kO1 hC1
          have x0 : W2.cell? ⟨Bx, 0, none⟩ = some (.int .i64 x.1) := (blk_cell bX2 0).trans rfl
          have x1' : W2.cell? ⟨Bx, 1, none⟩ = some (.int .i64 x.2) := (blk_cell bX2 1).trans rfl
          have o0 : W2.cell? ⟨bF + 1, 0, none⟩ = some (.func (.func 39) #[] #[.pointer (some ⟨bF, 0, none⟩), .pointer (some ⟨w.heap.size + 1 + 1 + 1 + 1, 0, none⟩), .pointer (some ⟨w.heap.size + 1 + 1 + 1, 0, none⟩)]) := (blk_cell kO2 0).trans rfl
          by_cases hp : cmpI x.1 x.2 x1 x2 < 0
          case neg =>
            have hd2 : decide (cmpI x.1 x.2 x1 x2 < 0) = false := decide_eq_false hp
            have hbt : betB a1_0 a1_1 x1 x2 x = false := by unfold betB; rw [hd2, Bool.and_false]
            clear hp
            gi_wp2
            exact ⟨⟨hbb.size, fun k o _ h0 _ => blk_below h0 hbb⟩, KM.of_below hbb, s, by rw [List.filter_append]; simpa [hbt] using hs, hC2⟩
          have hd2 : decide (cmpI x.1 x.2 x1 x2 < 0) = true := decide_eq_true hp
          have hbt : betB a1_0 a1_1 x1 x2 x = true := by unfold betB; rw [hd, hd2]; rfl
          clear hp
          obtain ⟨u, hu, hrow⟩ := hC2.o
          obtain ⟨⟨y1, y2, y3⟩, hS⟩ := sub_all x.1 x.2 s.1.1 s.1.2
          have hlen := cutG_len _ _ _ hs
          have hfl := List.length_filter_le (betB a1_0 a1_1 x1 x2) pre
          simp at hlen
          gi_wp2
          refine ⟨trivial, ?_⟩
          refine (CallsIn.inRound l (callsIn_wide.2 (cut1_ok w.heap.size w9.heap.size bF (w.heap.size + 1 + 1 + 1 + 1) (w.heap.size + 1 + 1 + 1) x.1 x.2 s.1.1 s.1.2 s.2.2 u s.2.1.length (flatR s.2.1) y1 y2 y3 W2 hC2.f hC2.e hu hrow (Nat.le_trans h9 hC2.sz) hC2.sz (by omega) (by omega) (by omega) (by omega) (by omega) (by omega) (by omega) hS))).mono ?_
          rintro e W3 ⟨v, rfl, h1, h2, h3⟩
          have hC3 := hC2.cut hu hrow h1 h2 h3
          have hkp := h2.keeps hC2.f hC2.e hu hrow
          gi_wp2
          refine ⟨⟨Nat.le_trans hbb.size h2.1, fun k o _ h0 ho => hkp k o (blk_below h0 hbb) (.inl ho)⟩, (KM.of_below hbb).trans ⟨h2.1, fun _ => h3, fun k cs t fr h0 ht => hkp k _ h0 (.inr ⟨cs, t, fr, rfl, ht⟩)⟩, _, ?_, hC3⟩
          rw [List.filter_append, cutG_append, hs]
          simp only [Option.bind_some, List.filter_cons, hbt, if_true, List.filter_nil, cutG, hS]
        case done =>
          rintro D ys W hD rfl ⟨s, hs, hC⟩ hK
          obtain rfl : s = z1 := Option.some.inj (hs.symm.trans hz1)
          have kN := (hC.k bN (by omega) (by omega) (by omega) (by omega)).trans EN9
          have kO := (hC.k (bF + 1) (by omega) (by omega) (by omega) (by omega)).trans ON9
          have n0 : W.cell? ⟨bN, 0, none⟩ = some (.int .i64 x1) := (blk_cell kN 0).trans rfl
          have n1 : W.cell? ⟨bN, 1, none⟩ = some (.int .i64 x2) := (blk_cell kN 1).trans rfl
          have o0 : W.cell? ⟨bF + 1, 0, none⟩ = some (.func (.func 39) #[] #[.pointer (some ⟨bF, 0, none⟩), .pointer (some ⟨w.heap.size + 1 + 1 + 1 + 1, 0, none⟩), .pointer (some ⟨w.heap.size + 1 + 1 + 1, 0, none⟩)]) := (blk_cell kO 0).trans rfl
          obtain ⟨u, hu, hrow⟩ := hC.o
          obtain ⟨⟨y1, y2, y3⟩, hS⟩ := sub_all x1 x2 s.1.1 s.1.2
          have hlen := cutG_len _ _ _ hs
          have hfl := List.length_filter_le (betB a1_0 a1_1 x1 x2) (uptoB a0_1 (grp a0_0 a0_1 l0_2) (grp a0_0 a0_1 l0_2).length)
          rw [uptoB_len] at hfl
          simp only [List.length_nil, Nat.zero_add] at hlen
          simp only [cutG, hS, Option.bind_some, Option.some.injEq] at hz
          subst hz
          simp only at h
          gi_wp2
          refine ⟨trivial, ?_⟩
          refine (callsIn_wide.2 (cut1_ok w.heap.size w9.heap.size bF (w.heap.size + 1 + 1 + 1 + 1) (w.heap.size + 1 + 1 + 1) x1 x2 s.1.1 s.1.2 s.2.2 u s.2.1.length (flatR s.2.1) y1 y2 y3 W hC.f hC.e hu hrow (Nat.le_trans h9 hC.sz) hC.sz (by omega) (by omega) (by omega) (by omega) (by omega) (by omega) (by omega) hS)).mono ?_
          rintro e W3 ⟨v, rfl, h1, h2, h3⟩
          have hC3 := hC.cut hu hrow h1 h2 h3
          have hkp := h2.keeps hC.f hC.e hu hrow
          have hK3 := hkp D _ hK (.inl rfl)
          clear h1 h2 h3 hkp n0 n1 o0
          obtain ⟨u', hu', hrow'⟩ := hC3.o
          have hE3 := hC3.e
          have hB3 := hC3.b
          have hce := hE3.cell
          have hfe := hE3.frozen
          have hfo := hu'.frozen
          have hco := hu'.cell
          simp only at hrow' hE3 hce h
          generalize mx s.2.2 y3 = ee at *
          generalize hou : s.2.1 ++ [(y1, y2)] = ou at *
          by_cases hx : ee = 0
          · subst hx
            rw [if_pos rfl] at h
            obtain ⟨rfl, rfl⟩ : rowsP ou = r1 ∧ (0 : Int) = r2 := by simpa using h
            obtain ⟨A, n, c, rfl⟩ : ∃ A n c, u' = .slice A n c := by
              rcases hrow'.2 with ⟨rfl, _⟩ | ⟨g, cap, cur, rfl, _⟩
              · exact ⟨_, _, _, rfl⟩
              · exact ⟨_, _, _, rfl⟩
            have h2 := two24 (r2 := 0) rfl hu' hE3 hB3 (.slice A n c)
            have hk2 : ((W3.setCell ⟨w.heap.size + 1 + 1 + 1, 0, none⟩ (.slice A n c)).setCell ⟨w.heap.size + 1 + 1 + 1 + 1, 0, none⟩ (.int .i64 0)).heap[D]? = some (.deferred (some [])) := ((KeepsOthers.setCell _ _ _).trans (KeepsOthers.setCell _ _ _)).same D _ hK3 rfl
            have hr2 : ((W3.setCell ⟨w.heap.size + 1 + 1 + 1, 0, none⟩ (.slice A n c)).setCell ⟨w.heap.size + 1 + 1 + 1 + 1, 0, none⟩ (.int .i64 0)).ownsRow w9.heap.size 26 2 (.slice A n c) ou.length (flatR ou) :=
              ownsRow_of_block hrow' (fun g hg => (Below.heap_setCell _ _ _ g (fun (e : g = w.heap.size + 1 + 1 + 1 + 1) => ownsRow_ne hrow' (w.heap.size + 1 + 1 + 1 + 1) (.inl (by omega)) (e ▸ hg))).trans (Below.heap_setCell _ _ _ g (fun (e : g = w.heap.size + 1 + 1 + 1) => ownsRow_ne hrow' (w.heap.size + 1 + 1 + 1) (.inl (by omega)) (e ▸ hg))))
            gi_wp2
            exact ret24D _ rfl (by rfl) (by rfl) h2.1 h2.2.1 h2.2.2 hk2 (Nat.le_trans h9 hD) (rowsP_R (ownsRow_lower (ownsRow_putObj hr2 _ hk2 rfl) h9) rfl)
          · rw [if_neg hx] at h
            obtain ⟨rfl, rfl⟩ : ([] : List S26) = r1 ∧ ee = r2 := by simpa using h
            have hd : (ee != 0) = true := by simpa using hx
            have hd2 : decide (ee = 0) = false := decide_eq_false hx
            have h2 := two24 (r2 := ee) rfl hu' hE3 hB3 (.slice none 0 0)
            gi_wp2
            have hk2 : ((W3.setCell ⟨w.heap.size + 1 + 1 + 1, 0, none⟩ (.slice none 0 0)).setCell ⟨w.heap.size + 1 + 1 + 1 + 1, 0, none⟩ (.int .i64 ee)).heap[D]? = some (.deferred (some [])) := ((KeepsOthers.setCell _ _ _).trans (KeepsOthers.setCell _ _ _)).same D _ hK3 rfl
            gi_region
            gi_wp2
            exact ret24D (X := ((W3.setCell ⟨w.heap.size + 1 + 1 + 1, 0, none⟩ (.slice none 0 0)).setCell ⟨w.heap.size + 1 + 1 + 1 + 1, 0, none⟩ (.int .i64 ee)).drew) _ rfl (by rfl) (by rfl) h2.1 h2.2.1 (below_drew1 h2.2.2) hk2 (Nat.le_trans h9 hD) (rowsP_R (ps := []) (own_nil _ _ _ _) rfl)
        case stop => rintro D c pre W _ _ h _; exact h.elim
end
theorem meter_Cut.calls (k : Nat) (a0_0 : Int) (a0_1 : Int) (A0_2 : Option Addr) (c0_2 : Nat) (l0_2 : List Int) (a1_0 : Int) (a1_1 : Int) (a2_0 : Int) (a2_1 : Int) (r1 : List (S26)) (r2 : Int) (w : World) (hr0_2 : Kd.C (Kd.int .i64) w A0_2 l0_2.length l0_2) (hc0_2 : l0_2.length ≤ c0_2) (h : meter_Cut.f k a0_0 a0_1 l0_2 a1_0 a1_1 a2_0 a2_1 = some (r1, r2)) :
    Calls Try.prog 24 #[.agg #[.int .i64 a0_0, .int .i64 a0_1, .slice A0_2 l0_2.length c0_2], .agg #[.int .i64 a1_0, .int .i64 a1_1], .agg #[.int .i64 a2_0, .int .i64 a2_1]] w fun e w' => ∃ v0_ : Value, e = .returned (.tuple #[v0_, .int .i64 r2]) ∧ Kd.R k26 26 w' w.heap.size (fun _ => True) v0_ r1 ∧ Below w.heap.size w w' :=
  Cut_calls k a0_0 a0_1 A0_2 c0_2 l0_2 a1_0 a1_1 a2_0 a2_1 r1 r2 w hr0_2 hc0_2 h

/-! ### partitalaw05_awake: function 10 -/
section
attribute [local go_sem high] eqA26
/-- The chapter's own examples: they are as the document says. -/
def partitalaw05_awake.f (_k : Nat) : Option Bool := some true
theorem partitalaw05_awake.mono : ∀ k, LeO (partitalaw05_awake.f k) (partitalaw05_awake.f (k + 1)) := fun _ => LeO.refl _
instance eqS26 : DecidableEq S26 := fun a b => if h : a.f0 = b.f0 ∧ a.f1 = b.f1 then isTrue (by cases a; cases b; simp only at h; rw [h.1, h.2]) else isFalse (fun e => h (by rw [e]; exact ⟨rfl, rfl⟩))
theorem aw1 : meter_Length.f 40 6 8 [] = some (3, 4, 0) := by decide +kernel
theorem aw2 : meter_Beats.f 40 6 8 [] = some ([⟨0, 1⟩, ⟨3, 8⟩], 0) := by decide +kernel
theorem aw3 : meter_Weight.f 40 6 8 [] 3 8 = some (2, 0) := by decide +kernel
theorem aw4 : meter_Cut.f 40 4 4 [] 1 8 1 2 = some ([⟨1, 8⟩, ⟨1, 4⟩, ⟨1, 8⟩], 0) := by decide +kernel
theorem aw5 : meter_Weight.f 40 6 8 [] 3 4 = some (0, 2) := by decide +kernel
theorem aw6 : meter_Beats.f 40 6 7 [] = some ([], 50) := by decide +kernel
theorem aw7 : meter_Cut.f 40 6 8 [] 1 2 1 2 = some ([], 2) := by decide +kernel
theorem aw8 : meter_Right.f 40 6 8 [] = some true := by decide +kernel
theorem aw9 : partitaref05_Ratios.f 40 [⟨0, 1⟩, ⟨3, 8⟩] [⟨0, 1⟩, ⟨3, 8⟩] = some true := by decide +kernel
theorem aw10 : partitaref05_Ratios.f 40 [⟨1, 8⟩, ⟨1, 4⟩, ⟨1, 8⟩] [⟨1, 8⟩, ⟨1, 4⟩, ⟨1, 8⟩] = some true := by decide +kernel
theorem aw11 : meter_Same.f 40 6 8 [] 6 8 [] = some true := by decide +kernel
theorem aw12 : meter_Same.f 40 6 8 [] 6 4 [] = some false := by decide +kernel
theorem litC (W : World) (cs : Array Value) (n : Nat) (ps : List (Int × Int)) (hn : n ≤ 100) (hp : ps.length = n) (hs : cs.size = n * 2) (hc : cs.toList = flatR ps) : Kd.C k26 (W.alloc (.cells cs 26)) (some ⟨W.heap.size, 0, none⟩) (rowsP ps).length (rowsP ps) := by
  have h := World.ownsRow_lit (base := W.heap.size) (e := 26) (size := 2) W cs n (Nat.le_refl _) (by simp [maxLen]; omega) hs
  rw [hc] at h
  exact (Kd.R_reads' (rowsP_R h hp)).2.2
set_option maxHeartbeats 4000000 in
set_option maxRecDepth 100000 in
theorem partitalaw05_awake.calls (k : Nat) (r : Bool) (w : World) (h : partitalaw05_awake.f k = some r) :
    Calls Try.prog 10 #[] w fun e w' => e = .returned (.bool r) ∧ Below w.heap.size w w' := by
  obtain rfl := Option.some.inj h
  clear h
  have hu24 := Try.underlying24
  have hu26 := Try.underlying26
  have HB := Aside0.mk (below_alloc (Below.refl w.heap.size w) (.cells #[.int .i64 6, .int .i64 8, .slice none 0 0] 24))
  have BM := Aside0.mk (blk_new w (.cells #[.int .i64 6, .int .i64 8, .slice none 0 0] 24))
  go_enter Try.func10, Try.ntmps10
  go_wp2_with (fail)
  refine (meter_Length.calls 40 6 8 _ _ [] _ _ _ _ (Kd.C_nil _ _) (Nat.le_refl _) aw1).mono ?_
  rintro e w1 ⟨rfl, hb⟩
  replace BM := Aside0.mk (blk_below BM.out hb)
  replace HB := Aside0.mk (below_step HB.out hb)
  clear hb
  go_upto_region 3 with (fail)
  have BL := Aside0.mk (blk_new w1 (.cells #[.int .i64 3, .int .i64 4] 26))
  replace BM := Aside0.mk (blk_alloc BM.out (.cells #[.int .i64 3, .int .i64 4] 26))
  replace HB := Aside0.mk (below_alloc HB.out (.cells #[.int .i64 3, .int .i64 4] 26))
  generalize (w1.alloc (.cells #[.int .i64 3, .int .i64 4] 26)) = w2 at *
  generalize w1.heap.size = nl at *
  have m0 : w2.cell? ⟨w.heap.size, 0, none⟩ = some (.int .i64 6) := (blk_cell BM.out 0).trans rfl
  have m1 : w2.cell? ⟨w.heap.size, 1, none⟩ = some (.int .i64 8) := (blk_cell BM.out 1).trans rfl
  have m2 : w2.cell? ⟨w.heap.size, 2, none⟩ = some (.slice none 0 0) := (blk_cell BM.out 2).trans rfl
  go_wp2_with (fail)
  refine (meter_Beats.calls 40 6 8 _ _ [] _ _ _ (Kd.C_nil _ _) (Nat.le_refl _) aw2).mono ?_
  rintro e w3 ⟨vb, rfl, hR, hb⟩
  clear m0 m1 m2
  replace BM := Aside0.mk (blk_below BM.out hb)
  replace BL := Aside0.mk (blk_below BL.out hb)
  replace HB := Aside0.mk (below_step HB.out hb)
  obtain ⟨Ab, cb, rfl⟩ := Kd.R_slice hR
  have Rb := Aside0.mk hR
  clear hR
  clear hb
  have m0 : w3.cell? ⟨w.heap.size, 0, none⟩ = some (.int .i64 6) := (blk_cell BM.out 0).trans rfl
  have m1 : w3.cell? ⟨w.heap.size, 1, none⟩ = some (.int .i64 8) := (blk_cell BM.out 1).trans rfl
  have m2 : w3.cell? ⟨w.heap.size, 2, none⟩ = some (.slice none 0 0) := (blk_cell BM.out 2).trans rfl
  go_wp2_with (fail)
  refine (meter_Weight.calls 40 6 8 _ _ [] 3 8 _ _ _ (Kd.C_nil _ _) (Nat.le_refl _) aw3).mono ?_
  rintro e w4 ⟨rfl, hb⟩
  clear m0 m1 m2
  replace BM := Aside0.mk (blk_below BM.out hb)
  replace BL := Aside0.mk (blk_below BL.out hb)
  replace HB := Aside0.mk (below_step HB.out hb)
  replace Rb := Aside0.mk (Kd.R_below Rb.out hb)
  clear hb
  go_wp2_with (fail)
  refine (meter_Cut.calls 40 4 4 _ _ [] 1 8 1 2 _ _ _ (Kd.C_nil _ _) (Nat.le_refl _) aw4).mono ?_
  rintro e w5 ⟨vc, rfl, hR, hb⟩
  replace BM := Aside0.mk (blk_below BM.out hb)
  replace BL := Aside0.mk (blk_below BL.out hb)
  replace HB := Aside0.mk (below_step HB.out hb)
  replace Rb := Aside0.mk (Kd.R_below Rb.out hb)
  obtain ⟨Ac, cc, rfl⟩ := Kd.R_slice hR
  have Rc := Aside0.mk hR
  clear hR
  clear hb
  have m0 : w5.cell? ⟨w.heap.size, 0, none⟩ = some (.int .i64 6) := (blk_cell BM.out 0).trans rfl
  have m1 : w5.cell? ⟨w.heap.size, 1, none⟩ = some (.int .i64 8) := (blk_cell BM.out 1).trans rfl
  have m2 : w5.cell? ⟨w.heap.size, 2, none⟩ = some (.slice none 0 0) := (blk_cell BM.out 2).trans rfl
  go_wp2_with (fail)
  refine (meter_Weight.calls 40 6 8 _ _ [] 3 4 _ _ _ (Kd.C_nil _ _) (Nat.le_refl _) aw5).mono ?_
  rintro e w6 ⟨rfl, hb⟩
  clear m0 m1 m2
  replace BM := Aside0.mk (blk_below BM.out hb)
  replace BL := Aside0.mk (blk_below BL.out hb)
  replace HB := Aside0.mk (below_step HB.out hb)
  replace Rb := Aside0.mk (Kd.R_below Rb.out hb)
  replace Rc := Aside0.mk (Kd.R_below Rc.out hb)
  clear hb
  go_wp2_with (fail)
  refine (meter_Beats.calls 40 6 7 _ _ [] _ _ _ (Kd.C_nil _ _) (Nat.le_refl _) aw6).mono ?_
  rintro e w7 ⟨vj, rfl, hR, hb⟩
  replace BM := Aside0.mk (blk_below BM.out hb)
  replace BL := Aside0.mk (blk_below BL.out hb)
  replace HB := Aside0.mk (below_step HB.out hb)
  replace Rb := Aside0.mk (Kd.R_below Rb.out hb)
  replace Rc := Aside0.mk (Kd.R_below Rc.out hb)
  obtain ⟨Aj, cj, rfl⟩ := Kd.R_slice hR
  have Rj := Aside0.mk hR
  clear hR
  clear hb
  have m0 : w7.cell? ⟨w.heap.size, 0, none⟩ = some (.int .i64 6) := (blk_cell BM.out 0).trans rfl
  have m1 : w7.cell? ⟨w.heap.size, 1, none⟩ = some (.int .i64 8) := (blk_cell BM.out 1).trans rfl
  have m2 : w7.cell? ⟨w.heap.size, 2, none⟩ = some (.slice none 0 0) := (blk_cell BM.out 2).trans rfl
  go_wp2_with (fail)
  refine (meter_Cut.calls 40 6 8 _ _ [] 1 2 1 2 _ _ _ (Kd.C_nil _ _) (Nat.le_refl _) aw7).mono ?_
  rintro e w8 ⟨vk, rfl, hR, hb⟩
  clear m0 m1 m2
  replace BM := Aside0.mk (blk_below BM.out hb)
  replace BL := Aside0.mk (blk_below BL.out hb)
  replace HB := Aside0.mk (below_step HB.out hb)
  replace Rb := Aside0.mk (Kd.R_below Rb.out hb)
  replace Rc := Aside0.mk (Kd.R_below Rc.out hb)
  replace Rj := Aside0.mk (Kd.R_below Rj.out hb)
  obtain ⟨Ak, ck, rfl⟩ := Kd.R_slice hR
  have Rk := Aside0.mk hR
  clear hR
  clear hb
  have m0 : w8.cell? ⟨w.heap.size, 0, none⟩ = some (.int .i64 6) := (blk_cell BM.out 0).trans rfl
  have m1 : w8.cell? ⟨w.heap.size, 1, none⟩ = some (.int .i64 8) := (blk_cell BM.out 1).trans rfl
  have m2 : w8.cell? ⟨w.heap.size, 2, none⟩ = some (.slice none 0 0) := (blk_cell BM.out 2).trans rfl
  go_wp2_with (fail)
  refine (meter_Right.calls 40 6 8 _ _ [] _ _ (Kd.C_nil _ _) (Nat.le_refl _) aw8).mono ?_
  rintro e w9 ⟨rfl, hb⟩
  clear m0 m1 m2
  replace BM := Aside0.mk (blk_below BM.out hb)
  replace BL := Aside0.mk (blk_below BL.out hb)
  replace HB := Aside0.mk (below_step HB.out hb)
  replace Rb := Aside0.mk (Kd.R_below Rb.out hb)
  replace Rc := Aside0.mk (Kd.R_below Rc.out hb)
  replace Rj := Aside0.mk (Kd.R_below Rj.out hb)
  replace Rk := Aside0.mk (Kd.R_below Rk.out hb)
  clear hb
  have m0 : w9.cell? ⟨w.heap.size, 0, none⟩ = some (.int .i64 6) := (blk_cell BM.out 0).trans rfl
  have m1 : w9.cell? ⟨w.heap.size, 1, none⟩ = some (.int .i64 8) := (blk_cell BM.out 1).trans rfl
  have m2 : w9.cell? ⟨w.heap.size, 2, none⟩ = some (.slice none 0 0) := (blk_cell BM.out 2).trans rfl
  have l0 : w9.cell? ⟨nl, 0, none⟩ = some (.int .i64 3) := (blk_cell BL.out 0).trans rfl
  have l1 : w9.cell? ⟨nl, 1, none⟩ = some (.int .i64 4) := (blk_cell BL.out 1).trans rfl
  go_wp2_with (fail)
  have HC1 := Aside0.mk (litC w9 #[.int .i64 0, .int .i64 1, .int .i64 3, .int .i64 8] 2 [(0, 1), (3, 8)] (by omega) rfl rfl rfl)
  refine (partitaref05_Ratios.calls 40 _ _ [⟨0, 1⟩, ⟨3, 8⟩] _ _ [⟨0, 1⟩, ⟨3, 8⟩] _ _ (Kd.R_reads' (Kd.R_alloc Rb.out _)).2.2 (Kd.R_reads' Rb.out).2.1 HC1.out (Nat.le_refl _) aw9).mono ?_
  rintro e w10 ⟨rfl, hd⟩
  have hb := Drawn0.below hd
  replace BM := Aside0.mk (blk_below (blk_alloc BM.out (.cells #[.int .i64 0, .int .i64 1, .int .i64 3, .int .i64 8] 26)) hb)
  replace HB := Aside0.mk (below_step (below_alloc HB.out (.cells #[.int .i64 0, .int .i64 1, .int .i64 3, .int .i64 8] 26)) hb)
  replace Rc := Aside0.mk (Kd.R_below (Kd.R_alloc Rc.out (.cells #[.int .i64 0, .int .i64 1, .int .i64 3, .int .i64 8] 26)) hb)
  clear hb hd m0 m1 m2 l0 l1
  go_wp2_with (fail)
  have HC2 := Aside0.mk (litC w10 #[.int .i64 1, .int .i64 8, .int .i64 1, .int .i64 4, .int .i64 1, .int .i64 8] 3 [(1, 8), (1, 4), (1, 8)] (by omega) rfl rfl rfl)
  refine (partitaref05_Ratios.calls 40 _ _ [⟨1, 8⟩, ⟨1, 4⟩, ⟨1, 8⟩] _ _ [⟨1, 8⟩, ⟨1, 4⟩, ⟨1, 8⟩] _ _ (Kd.R_reads' (Kd.R_alloc Rc.out _)).2.2 (Kd.R_reads' Rc.out).2.1 HC2.out (Nat.le_refl _) aw10).mono ?_
  rintro e w11 ⟨rfl, hd⟩
  have hb := Drawn0.below hd
  replace BM := Aside0.mk (blk_below (blk_alloc BM.out (.cells #[.int .i64 1, .int .i64 8, .int .i64 1, .int .i64 4, .int .i64 1, .int .i64 8] 26)) hb)
  replace HB := Aside0.mk (below_step (below_alloc HB.out (.cells #[.int .i64 1, .int .i64 8, .int .i64 1, .int .i64 4, .int .i64 1, .int .i64 8] 26)) hb)
  clear hb hd
  have m0 : w11.cell? ⟨w.heap.size, 0, none⟩ = some (.int .i64 6) := (blk_cell BM.out 0).trans rfl
  have m1 : w11.cell? ⟨w.heap.size, 1, none⟩ = some (.int .i64 8) := (blk_cell BM.out 1).trans rfl
  have m2 : w11.cell? ⟨w.heap.size, 2, none⟩ = some (.slice none 0 0) := (blk_cell BM.out 2).trans rfl
  go_wp2_with (fail)
  refine (meter_Same.calls 40 6 8 _ _ [] 6 8 _ _ [] _ _ (Kd.C_nil _ _) (Nat.le_refl _) (Kd.C_nil _ _) (Nat.le_refl _) aw11).mono ?_
  rintro e w12 ⟨rfl, hb⟩
  replace BM := Aside0.mk (blk_below BM.out hb)
  replace HB := Aside0.mk (below_step HB.out hb)
  clear hb m0 m1 m2
  have m0 : w12.cell? ⟨w.heap.size, 0, none⟩ = some (.int .i64 6) := (blk_cell BM.out 0).trans rfl
  have m1 : w12.cell? ⟨w.heap.size, 1, none⟩ = some (.int .i64 8) := (blk_cell BM.out 1).trans rfl
  have m2 : w12.cell? ⟨w.heap.size, 2, none⟩ = some (.slice none 0 0) := (blk_cell BM.out 2).trans rfl
  go_wp2_with (fail)
  refine (meter_Same.calls 40 6 8 _ _ [] 6 4 _ _ [] _ _ (Kd.C_nil _ _) (Nat.le_refl _) (Kd.C_nil _ _) (Nat.le_refl _) aw12).mono ?_
  rintro e w13 ⟨rfl, hb⟩
  replace HB := Aside0.mk (below_step HB.out hb)
  clear hb m0 m1 m2
  go_wp2
  go_ret
  exact ⟨rfl, HB.out⟩
end

/-! ### partitalaw05_pick: function 28 -/
def partitalaw05_pick.f (a0 : Int) (a1 : Int) : Option (Int) := if a0 < 0 then (if a1 = 0 then (none) else (some (Int.tmod (wrap64 (-(wrap64 (a0 + 1)))) a1))) else (if a1 = 0 then (none) else (some (Int.tmod a0 a1)))
set_option maxHeartbeats 8000000 in
set_option maxRecDepth 100000 in
theorem partitalaw05_pick.calls (a0 : Int) (a1 : Int) (r : Int) (w : World) (h : partitalaw05_pick.f a0 a1 = some r) :
 Calls Try.prog 28 #[.int .i64 a0, .int .i64 a1] w fun e w' => e = .returned (.int .i64 r) ∧ Drawn0 w w' := by
 have H : (if a0 < 0 then (if a1 = 0 then (none) else (some (Int.tmod (wrap64 (-(wrap64 (a0 + 1)))) a1))) else (if a1 = 0 then (none) else (some (Int.tmod a0 a1)))) = some r := h
 clear h
 by_cases c3 : a0 < 0
 · rw [if_pos c3] at H
   have c3b0 : decide (a0 < 0) = true := decide_eq_true c3
   clear c3
   by_cases c4 : a1 = 0
   · rw [if_pos c4] at H
     exact absurd H (by simp)
   · rw [if_neg c4] at H
     have c4b0 : (a1 == 0) = false := beq_eq_false_iff_ne.mpr c4
     have c4b1 : (a1 != 0) = true := bne_iff_ne.mpr c4
     obtain rfl := Option.some.inj H
     go_enter Try.func28, Try.ntmps28
     go_wp2
     go_ret
     exact ⟨by first | rfl | (simp; done) | (simp [*]; done), by repeat (first | exact Drawn0.refl _ | apply Drawn0.step)⟩
 · rw [if_neg c3] at H
   have c3b0 : decide (a0 < 0) = false := decide_eq_false c3
   clear c3
   by_cases c5 : a1 = 0
   · rw [if_pos c5] at H
     exact absurd H (by simp)
   · rw [if_neg c5] at H
     have c5b0 : (a1 == 0) = false := beq_eq_false_iff_ne.mpr c5
     have c5b1 : (a1 != 0) = true := bne_iff_ne.mpr c5
     obtain rfl := Option.some.inj H
     go_enter Try.func28, Try.ntmps28
     go_wp2
     go_ret
     exact ⟨by first | rfl | (simp; done) | (simp [*]; done), by repeat (first | exact Drawn0.refl _ | apply Drawn0.step)⟩

end Go.Proofs.Ytbncdlnnjhadgaa.Q
